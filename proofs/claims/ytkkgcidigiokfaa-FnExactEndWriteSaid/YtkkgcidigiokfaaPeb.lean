/-
  What the functions that the law reaches answer. (A part of the proofs of this seat.)
-/
import Derived.Test.YtkkgcidigiokfaaPea
import Derived.Test.YtkkgcidigiokfaaGec

section
set_option linter.unusedVariables false
set_option linter.unusedSimpArgs false
/-
  An end that is to tell bytes: the plain functions, in plain words.
-/
namespace Go.Proofs.Ytkkgcidigiokfaa.Gn
open Go.Rf Go.IntWalk

/-! ### when something goes again -/
theorem arm_eq (k : Nat) (a0 a1 a2 a3 a4 a5 a6 : Int) (a7 : List (den (.int .u8))) (a8 a9 : Int) (a10 : List (den rng)) (a11 a12 : Int) (a13 : List (den (.int .u8))) (a14 : List (den erl)) (a15 a16 a17 : Bool) (a18 a19 a20 a21 a22 a23 : Int) (now : Int) (h8 : 0 ≤ a8 ∧ a8 ≤ (a7.length : Int)) (hopn : ¬ Opn a0 (a7.length : Int) a16 a17 → a19 = 0 ∧ (a20 = 0 ∨ a0 = 5)) :
    ∃ D, F80 k a0 a1 a2 a3 a4 a5 a6 a7 a8 a9 a10 a11 a12 a13 a14 a15 a16 a17 a18 a19 a20 a21 a22 a23 now false = some (a0, a1, a2, a3, a4, a5, a6, a7, a8, a9, a10, a11, a12, a13, a14, a15, a16, a17, a18, D, a20, a21, a22, a23) ∧
      F86 k a0 a1 a2 a3 a4 a5 a6 a7 a8 a9 a10 a11 a12 a13 a14 a15 a16 a17 a18 a19 a20 a21 a22 a23 now = some (a0, a1, a2, a3, a4, a5, a6, a7, a8, a9, a10, a11, a12, a13, a14, a15, a16, a17, a18, D, a20, a21, a22, a23) := by
  obtain ⟨b, hs, hi, hbo⟩ := (F144_is k a0 a1 a2 a3 a4 a5 a6 a7 a8 a9 a10 a11 a12 a13 a14 a15 a16 a17 a18 a19 a20 a21 a22 a23 h8).eq (F111_is k a0 a1 a2 a3 a4 a5 a6 a7 a8 a9 a10 a11 a12 a13 a14 a15 a16 a17 a18 a19 a20 a21 a22 a23)
  unfold F80 F80_T F86 F86_T
  rw [cond_false, hs, hi]
  simp only [Option.bind_some]
  cases b with
  | true =>
    cases hz : (a19 == 0) with
    | true => exact ⟨_, rfl, rfl⟩
    | false => exact ⟨_, rfl, rfl⟩
  | false =>
    obtain ⟨z1, z2⟩ := hopn fun e => by have := hbo.2 e; cases this
    subst z1
    by_cases h5 : a0 = 5
    · rw [show (a0 != 5) = false by rw [h5]; rfl]
      exact ⟨0, rfl, rfl⟩
    · have := z2.resolve_right h5
      subst this
      rw [show (a0 != 5) = true from bne_iff_ne.2 h5]
      exact ⟨0, rfl, rfl⟩

/-! ### segments with bytes -/
theorem copyData (k : Nat) (a0 a1 a2 a3 a4 : Int) (a5 a6 a7 a8 : Bool) (a9 : List (den rng)) (a10 : List (den (.int .u8))) (h9 : a9.length ≤ 4194304) (h10 : a10.length ≤ 4194304) : F68_2 k a0 a1 a2 a3 a4 a5 a6 a7 a8 a9 a10 = some (a0, a1, a2, a3, a4, a5, a6, a7, a8, a9, a10) := by
  simp only [F68_2, F68_2_T]
  rw [F136_eq k a9 h9, F137_eq k a10 h10]; rfl
theorem segData_l (k : Nat) (a0 a1 a2 a3 a4 a5 a6 : Int) (a7 : List (den (.int .u8))) (a8 a9 : Int) (a10 : List (den rng)) (a11 a12 : Int) (a13 : List (den (.int .u8))) (a14 : List (den erl)) (a15 a16 a17 : Bool) (a18 a19 a20 a21 a22 a23 : Int) (at' : Int) (data : u8L) (c2 c3 c4 : Int) (l : List (Int × Int)) (hl : l.length ≤ 2) (hd : data.length ≤ 4194304) (hk : 4 ≤ k) :
    F149_2_l0 k a0 a1 a2 a3 a4 a5 a6 a7 a8 a9 a10 a11 a12 a13 a14 a15 a16 a17 a18 a19 a20 a21 a22 a23 at' data k ((l.length : Nat) : Int) 0 c2 c3 c4 [] l = some (a2, a4, c2, c3, c4, false, true, false, false, l.map sq, data) := by
  have := foldLoopI l (fun j (m : List (Int × Int)) => m.length ≤ j) (fun n m j => F149_2_l0 k a0 a1 a2 a3 a4 a5 a6 a7 a8 a9 a10 a11 a12 a13 a14 a15 a16 a17 a18 a19 a20 a21 a22 a23 at' data n ((l.length : Nat) : Int) j c2 c3 c4 m l) (fun m r => m ++ [sq r])
    (fun m => (a2, a4, c2, c3, c4, false, true, false, false, m, data))
    (fun n m j h hp => by
      rw [F149_2_l0]
      unfold F149_2_l0_T
      rw [atI_get (t := rng) l j h, up1 j (by omega), decide_eq_true (by omega : ((j : Nat) : Int) < (l.length : Nat)), decide_eq_true (by omega : (0 : Int) ≤ (j : Nat)), seqI, seqI]
      simp only [cond_true, Option.bind_some]
      rw [decide_eq_true (by simp; omega)]
      rfl)
    (fun m j h hp => by simp; omega)
    (fun n m hp => by
      rw [F149_2_l0]
      unfold F149_2_l0_T
      rw [decide_eq_false (by omega : ¬ ((l.length : Nat) : Int) < (l.length : Nat)), cond_false, copyData k _ _ _ _ _ _ _ _ _ m data (by omega) hd]; rfl) k [] 0 (Nat.zero_le _) (by omega) (by simp)
  rw [List.drop_zero, foldl_app, List.nil_append] at this
  exact this
theorem segData_eq (k : Nat) (a0 a1 a2 a3 a4 a5 a6 : Int) (a7 : List (den (.int .u8))) (a8 a9 : Int) (a10 : List (den rng)) (a11 a12 : Int) (a13 : List (den (.int .u8))) (a14 : List (den erl)) (a15 a16 a17 : Bool) (a18 a19 a20 a21 a22 a23 : Int) (at' : Int) (data : u8L) (hd : data.length ≤ 4194304) (hok : earB a11 a12 a13 a14 = true) (hl : a14.length ≤ 1048576) (hk : a14.length < k) (hk4 : 4 ≤ k) :
    F149_2 k a0 a1 a2 a3 a4 a5 a6 a7 a8 a9 a10 a11 a12 a13 a14 a15 a16 a17 a18 a19 a20 a21 a22 a23 at' data = some (a2, a4, seqOf at', seqOf (waitE a11 a18), a12 - ((a13.length : Nat) : Int), false, true, false, false, (rgs a14).map sq, data) := by
  obtain ⟨_, h1, h2, _⟩ := ear_iff.1 hok
  have hw : F171 k a0 a1 a2 a3 a4 a5 a6 a7 a8 a9 a10 a11 a12 a13 a14 a15 a16 a17 a18 a19 a20 a21 a22 a23 = some (waitE a11 a18) := by unfold F171 waitE; rw [some_cond]
  have hf : F124 k a11 a12 a13 a14 = some (a12 - ((a13.length : Nat) : Int)) := by unfold F124; rw [i64_in _ (by omega)]
  unfold F149_2 F149_2_T
  refine (bs (seqI k at')).trans ?_
  refine (bs hw).trans ?_
  refine (bs (seqI k _)).trans ?_
  refine (bs hf).trans ?_
  refine (bs (F172_eq k a11 a12 a13 a14 hok hl hk)).trans ?_
  exact segData_l k a0 a1 a2 a3 a4 a5 a6 a7 a8 a9 a10 a11 a12 a13 a14 a15 a16 a17 a18 a19 a20 a21 a22 a23 at' data _ _ _ (rgs a14) (rgs_len _) hd hk4

/-! ### bytes behind each other -/
theorem F138_eq (k : Nat) (a : Int) (h : 0 ≤ a ∧ a ≤ 16777216) : F138 k a = some [] := by
  simp only [F138, F138_T]
  rw [decide_eq_false (by omega : ¬ a < 0), i64_in _ (by omega)]
  by_cases h0 : a = 0
  · subst h0; rfl
  · rw [decide_eq_true (by omega : a - 0 > 0), decide_eq_true (by omega : (a - 0) * (1 : Nat) ≤ 140737488355328)]
    rw [decide_eq_true (by omega : (0 : Int) ≤ (((List.replicate ((a - 0).toNat) (dflt (.int .u8))).length : Nat) : Int))]
    rfl
theorem F69_eq (n : Nat) (x y : u8L) (hx : x.length ≤ 1048576) (hy : y.length ≤ 1048576) : F69 (n + 4) [x, y] = some (x ++ y) := by
  have hl2 : F69_l2 (n + 4) [x, y] (n + 4) 0 [] = some (x ++ y) := by
    have e0 : atI (t := .sl (.int .u8)) [x, y] 0 = x := rfl
    have e1 : atI (t := .sl (.int .u8)) [x, y] 1 = y := rfl
    have w1 : IntKind.i64.wrap (0 + 1) = 1 := rfl
    have w2 : IntKind.i64.wrap (1 + 1) = 2 := rfl
    simp only [F69_l2, F69_l2_T, w1, w2, e0, e1, List.nil_append, List.length_nil, Nat.zero_add]
    rw [decide_eq_true (by omega : x.length * 1 ≤ 140737488355328), decide_eq_true (by omega : (x.length + y.length) * 1 ≤ 140737488355328)]
    rfl
  have hl0 : F69_l0 (n + 4) [x, y] (n + 4) 0 0 = some (x ++ y) := by
    have e0 : atI (t := .sl (.int .u8)) [x, y] 0 = x := rfl
    have e1 : atI (t := .sl (.int .u8)) [x, y] 1 = y := rfl
    have w1 : IntKind.i64.wrap (0 + 1) = 1 := rfl
    have w2 : IntKind.i64.wrap (1 + 1) = 2 := rfl
    have w3 : IntKind.i64.wrap (0 + (x.length : Int)) = (x.length : Int) := by rw [i64_in _ (by omega)]; omega
    have w4 : IntKind.i64.wrap ((x.length : Int) + (y.length : Int)) = (x.length : Int) + (y.length : Int) := i64_in _ (by omega)
    simp only [F69_l0, F69_l0_T, w1, w2, e0, e1, w3, w4]
    rw [decide_eq_false (by omega : ¬ ((x.length : Nat) : Int) < 0), decide_eq_false (by omega : ¬ ((x.length : Nat) : Int) + ((y.length : Nat) : Int) < 0),
      F138_eq (n + 4) ((x.length : Int) + (y.length : Int)) (by omega), Option.bind_some, hl2]
    rfl
  simp only [F69, F69_T]
  exact hl0

/-! ### writing -/
theorem F145_eq (k : Nat) (m0 : Int) (m1 : List (den (.int .u8))) (m2 m3 : Int) (m4 : List (den rng)) (h1 : m1.length ≤ 4194304) (h4 : m4.length ≤ 4194304) : F145 k m0 m1 m2 m3 m4 = some (m0, m1, m2, m3, m4) := by
  simp only [F145, F145_T, List.nil_append, List.length_nil, Nat.zero_add]
  rw [decide_eq_true (by omega : m1.length * 1 ≤ 140737488355328), decide_eq_true (by omega : m4.length * 16 ≤ 140737488355328)]
  rfl
theorem F147_eq (k : Nat) (m0 : Int) (m1 : List (den (.int .u8))) (m2 m3 : Int) (m4 : List (den rng)) (h1 : m1.length ≤ 4194304) (h4 : m4.length ≤ 4194304) : F147 k m0 m1 m2 m3 m4 = some (m0, m1, m2, m3, m4) := by
  simp only [F147, F137_eq k m1 h1, F136_eq k m4 h4, Option.bind_some]
theorem write_eq (n : Nat) (m0 : Int) (m1 : List (den (.int .u8))) (m2 m3 : Int) (m4 : List (den rng)) (data : u8L) (hok : mokB m0 m1 m2 m3 m4 = true) (hd : data.length ≤ 1048576) :
    ∃ d : u8L, F118 (n + 4) m0 m1 m2 m3 m4 data = some (m0, m1 ++ d, m2, m3, m4, ((d.length : Nat) : Int)) ∧ F120 (n + 4) m0 m1 m2 m3 m4 data = some (m0, m1 ++ d, m2, m3, m4, ((d.length : Nat) : Int)) ∧ m1.length + d.length ≤ 32 := by
  obtain ⟨h0, h1, h2, h3, h4, h5⟩ := mok_iff.1 hok
  unfold F118 F118_T F120 F120_T
  rw [F141_eq (n + 4) m0 m1 m2 m3 m4 (by omega), F107_eq (n + 4) m0 m1 m2 m3 m4 (by omega), hok, F145_eq (n + 4) m0 m1 m2 m3 m4 (by omega) (by omega), i64_in (32 - ((m1.length : Nat) : Int)) (by omega)]
  simp only [Option.bind_some, Bool.not_true, cond_false]
  have hb : ∀ x : Int, (if 32 - ((m1.length : Nat) : Int) < ((data.length : Nat) : Int) then 32 - ((m1.length : Nat) : Int) else ((data.length : Nat) : Int)) = x → 0 ≤ x ∧ x ≤ ((data.length : Nat) : Int) ∧ x ≤ 32 - ((m1.length : Nat) : Int) := by
    intro x hx
    split at hx <;> subst hx <;> omega
  obtain ⟨x1, x2, x3⟩ := hb _ rfl
  generalize (if 32 - ((m1.length : Nat) : Int) < ((data.length : Nat) : Int) then 32 - ((m1.length : Nat) : Int) else ((data.length : Nat) : Int)) = x at *
  have hlen : (data.take x.toNat).length = x.toNat := by rw [List.length_take]; omega
  rw [decide_eq_true x1, decide_eq_true x2, F69_eq n m1 (data.take x.toNat) (by omega) (by omega), decide_eq_true (by omega : (m1.length + (data.take x.toNat).length) * 1 ≤ 140737488355328)]
  simp only [Bool.and_self, cond_true, Option.bind_some]
  rw [F147_eq (n + 4) m0 (m1 ++ data.take x.toNat) m2 m3 m4 (by simp; omega) (by omega)]
  have e : x = (((data.take x.toNat).length : Nat) : Int) := by omega
  refine ⟨data.take x.toNat, ?_, ?_, by omega⟩
  · rw [← e]
  · rw [← e]; rfl
theorem chkR_mono {to to' : Int} (h : to ≤ to') : ∀ {l : List (Int × Int)} {a : Int}, chkR to a l = true → chkR to' a l = true
  | [], _, _ => rfl
  | r :: l, a, hc => by
    simp only [chkR, Bool.and_eq_true, decide_eq_true_eq] at hc ⊢
    exact ⟨⟨hc.1.1, by omega⟩, chkR_mono h hc.2⟩
/-- how far is told, one segment further -/
def nxt (L m2 m3 : Int) : Int := if m2 + 12 < (if m3 < L then m3 else L) then m2 + 12 else (if m3 < L then m3 else L)
theorem nxt_le (L m2 m3 : Int) : nxt L m2 m3 ≤ L ∧ nxt L m2 m3 ≤ m3 ∧ nxt L m2 m3 ≤ m2 + 12 := by
  unfold nxt
  split <;> split at * <;> omega
theorem nxt_imp (L m2 m3 : Int) : (if m3 - m2 < (if L - m2 < 12 then L - m2 else 12) then m3 - m2 else (if L - m2 < 12 then L - m2 else 12)) = nxt L m2 m3 - m2 := by
  unfold nxt
  by_cases c1 : m3 < L <;> by_cases c2 : L - m2 < 12 <;> by_cases c3 : m3 - m2 < 12 <;> by_cases c4 : m3 - m2 < L - m2 <;> simp only [c1, c2, c3, c4, if_true, if_false] <;> split <;> (try split) <;> omega
theorem next_spec (k : Nat) (m0 : Int) (m1 : List (den (.int .u8))) (m2 m3 : Int) (m4 : List (den rng)) (hok : mokB m0 m1 m2 m3 m4 = true) (hk : 4 ≤ k) :
    F162 k m0 m1 m2 m3 m4 12 = cond (decide (nxt ((m1.length : Nat) : Int) m2 m3 ≤ m2)) (some (m0, m1, m2, m3, m4, m0 + m2, []))
      (some (m0, m1, nxt ((m1.length : Nat) : Int) m2 m3, m3, m4, m0 + m2, (m1.take (nxt ((m1.length : Nat) : Int) m2 m3).toNat).drop m2.toNat)) := by
  obtain ⟨h0, h1, h2, h3, h4, h5⟩ := mok_iff.1 hok
  obtain ⟨n1, n2, n3⟩ := nxt_le ((m1.length : Nat) : Int) m2 m3
  unfold F162 F162_T
  rw [F141_eq k m0 m1 m2 m3 m4 hk, hok, F77_eq, F145_eq k m0 m1 m2 m3 m4 (by omega) (by omega), i64_in (m2 + 12) (by omega), i64_in (m0 + m2) (by omega)]
  have e : (if m2 + 12 < (if m3 < ((m1.length : Nat) : Int) then m3 else ((m1.length : Nat) : Int)) then m2 + 12 else (if m3 < ((m1.length : Nat) : Int) then m3 else ((m1.length : Nat) : Int))) = nxt ((m1.length : Nat) : Int) m2 m3 := rfl
  rw [e, show inB 12 1 12 = true from rfl]
  simp only [Option.bind_some, Bool.not_true, cond_false, List.nil_append, List.length_nil, Nat.zero_add]
  by_cases c : nxt ((m1.length : Nat) : Int) m2 m3 ≤ m2
  · rw [decide_eq_true c]; rfl
  · rw [decide_eq_false c, decide_eq_true (by omega : 0 ≤ nxt ((m1.length : Nat) : Int) m2 m3), decide_eq_true n1, decide_eq_true h2.1, decide_eq_true (by omega : m2 ≤ nxt ((m1.length : Nat) : Int) m2 m3)]
    rw [decide_eq_true (by rw [List.length_drop, List.length_take]; omega)]
    rfl
theorem next_impl (k : Nat) (m0 : Int) (m1 : List (den (.int .u8))) (m2 m3 : Int) (m4 : List (den rng)) (b0 b1 : Int) (b2 : u8L) (b3 : erL) (b4 b5 b6 : Bool) (b7 b8 b9 b10 b11 b12 : Int) (hok : mokB m0 m1 m2 m3 m4 = true) :
    F163 k m0 m1 m2 m3 m4 b0 b1 b2 b3 b4 b5 b6 b7 b8 b9 b10 b11 b12 12 = cond (decide (nxt ((m1.length : Nat) : Int) m2 m3 ≤ m2)) (some (m0 + m2, [], m0, m1, m2, m3, m4, b0, b1, b2, b3, b4, b5, b6, b7, b8, b9, b10, b11, b12))
      (some (m0 + m2, (m1.take (nxt ((m1.length : Nat) : Int) m2 m3).toNat).drop m2.toNat, m0, m1, nxt ((m1.length : Nat) : Int) m2 m3, m3, m4, b0, b1, b2, b3, b4, b5, b6, b7, b8, b9, b10, b11, b12)) := by
  obtain ⟨h0, h1, h2, h3, h4, h5⟩ := mok_iff.1 hok
  obtain ⟨n1, n2, n3⟩ := nxt_le ((m1.length : Nat) : Int) m2 m3
  unfold F163 F163_T
  rw [i64_in (m3 - m2) (by omega), i64_in (((m1.length : Nat) : Int) - m2) (by omega), i64_in (m0 + m2) (by omega), nxt_imp]
  have e2 : IntKind.i64.wrap (m2 + (nxt ((m1.length : Nat) : Int) m2 m3 - m2)) = nxt ((m1.length : Nat) : Int) m2 m3 := by
    have : m2 + (nxt ((m1.length : Nat) : Int) m2 m3 - m2) = nxt ((m1.length : Nat) : Int) m2 m3 := by omega
    by_cases c : -1000000 ≤ nxt ((m1.length : Nat) : Int) m2 m3
    · rw [this, i64_in _ (by omega)]
    · exfalso
      unfold nxt at c
      split at c <;> split at c <;> omega
  rw [e2]
  by_cases c : nxt ((m1.length : Nat) : Int) m2 m3 ≤ m2
  · rw [decide_eq_true c, decide_eq_true (by omega : nxt ((m1.length : Nat) : Int) m2 m3 - m2 ≤ 0)]; rfl
  · rw [decide_eq_false c, decide_eq_false (by omega : ¬ nxt ((m1.length : Nat) : Int) m2 m3 - m2 ≤ 0), decide_eq_true (by omega : 0 ≤ nxt ((m1.length : Nat) : Int) m2 m3), decide_eq_true n1, decide_eq_true h2.1, decide_eq_true (by omega : m2 ≤ nxt ((m1.length : Nat) : Int) m2 m3)]
    rw [F137_eq k _ (by rw [List.length_drop, List.length_take]; omega)]
    rfl
/-- all that is told -/
def tl (f : Int → u8L → den seg) (m1 : u8L) (m3 : Int) : Nat → Int → sgL → Int × sgL
  | 0, m2, l => (m2, l)
  | n + 1, m2, l => cond (decide (nxt ((m1.length : Nat) : Int) m2 m3 ≤ m2)) (m2, l) (tl f m1 m3 n (nxt ((m1.length : Nat) : Int) m2 m3) (l ++ [f m2 ((m1.take (nxt ((m1.length : Nat) : Int) m2 m3).toNat).drop m2.toNat)]))
theorem tl_bound (f : Int → u8L → den seg) (m1 : u8L) (m3 : Int) (hf : ∀ x d, d.length ≤ 12 → shortS 20 (f x d)) : ∀ (n : Nat) (m2 : Int) (l : sgL), 0 ≤ m2 → m2 ≤ ((m1.length : Nat) : Int) → (∀ s ∈ l, shortS 20 s) →
    m2 ≤ (tl f m1 m3 n m2 l).1 ∧ (tl f m1 m3 n m2 l).1 ≤ ((m1.length : Nat) : Int) ∧ ((tl f m1 m3 n m2 l).2.length : Int) + ((m1.length : Nat) : Int) ≤ (l.length : Int) + ((m1.length : Nat) : Int) + ((m1.length : Nat) : Int) - m2 ∧ ∀ s ∈ (tl f m1 m3 n m2 l).2, shortS 20 s
  | 0, m2, l, h0, h1, h2 => ⟨Int.le_refl _, h1, by simp only [tl]; omega, h2⟩
  | n + 1, m2, l, h0, h1, h2 => by
    rw [tl]
    obtain ⟨n1, n2, n3⟩ := nxt_le ((m1.length : Nat) : Int) m2 m3
    by_cases c : nxt ((m1.length : Nat) : Int) m2 m3 ≤ m2
    · rw [decide_eq_true c, cond_true]
      exact ⟨Int.le_refl _, h1, by show (l.length : Int) + _ ≤ _; omega, h2⟩
    · rw [decide_eq_false c, cond_false]
      obtain ⟨q1, q2, q3, q4⟩ := tl_bound f m1 m3 hf n (nxt ((m1.length : Nat) : Int) m2 m3) (l ++ [f m2 ((m1.take (nxt ((m1.length : Nat) : Int) m2 m3).toNat).drop m2.toNat)]) (by omega) n1 (by
        intro s hs
        rcases List.mem_append.1 hs with hs | hs
        · exact h2 s hs
        · obtain rfl := List.mem_singleton.1 hs
          exact hf _ _ (by rw [List.length_drop, List.length_take]; omega))
      refine ⟨by omega, q2, ?_, q4⟩
      simp only [List.length_append, List.length_singleton] at q3
      omega
/-- a segment of an end with bytes -/
def sgE (a2 a4 a6 a11 a12 : Int) (a13 : u8L) (a14 : erL) (a18 : Int) (m2 : Int) (d : u8L) : den seg :=
  (a2, a4, seqOf (a6 + m2), seqOf (waitE a11 a18), a12 - ((a13.length : Nat) : Int), false, true, false, false, (rgs a14).map sq, d)
theorem drop_ne (m1 : u8L) (x m2 : Int) (h0 : 0 ≤ m2) (h1 : m2 < x) (h2 : x ≤ ((m1.length : Nat) : Int)) : ((((m1.take x.toNat).drop m2.toNat).length : Nat) : Int) = x - m2 := by
  rw [List.length_drop, List.length_take]; omega
theorem bytes_spec (k : Nat) (a0 a1 a2 a3 a4 a5 a6 : Int) (a7 : List (den (.int .u8))) (a8 a9 : Int) (a10 : List (den rng)) (a11 a12 : Int) (a13 : List (den (.int .u8))) (a14 : List (den erl)) (a15 a16 a17 : Bool) (a18 a19 a20 a21 a22 a23 : Int) (h4 : a0 = 4) (hok : earB a11 a12 a13 a14 = true) (h14 : a14.length ≤ 1048576) (hk : 1048576 < k) : ∀ (n : Nat) (x : Int) (l : sgL), mokB a6 a7 x a9 a10 = true → ((a7.length : Nat) : Int) - x < n → l.length + n ≤ 4194304 →
    F119_l0 k a0 a1 a2 a3 a4 a5 a6 a7 a8 a9 a10 a11 a12 a13 a14 a15 a16 a17 a18 a19 a20 a21 a22 a23 n a6 a7 x a9 a10 l =
      some (a0, a1, a2, a3, a4, a5, a6, a7, (tl (sgE a2 a4 a6 a11 a12 a13 a14 a18) a7 a9 n x l).1, a9, a10, a11, a12, a13, a14, a15, a16, a17, a18, a19, a20, a21, a22, a23, (tl (sgE a2 a4 a6 a11 a12 a13 a14 a18) a7 a9 n x l).2)
  | 0, x, l, hm, hn, _ => by
    obtain ⟨h0, h1, h2, h3, h4, h5⟩ := mok_iff.1 hm
    omega
  | n + 1, x, l, hm, hn, hl => by
    obtain ⟨h0, h1, h2, h3, h4', h5⟩ := mok_iff.1 hm
    obtain ⟨n1, n2, n3⟩ := nxt_le ((a7.length : Nat) : Int) x a9
    rw [F119_l0, tl]
    unfold F119_l0_T
    rw [next_spec k a6 a7 x a9 a10 hm (by omega), show (a0 == 4) = true from beq_iff_eq.2 h4]
    by_cases c : nxt ((a7.length : Nat) : Int) x a9 ≤ x
    · rw [decide_eq_true c]
      rfl
    · rw [decide_eq_false c]
      simp only [cond_true, cond_false, Option.bind_some]
      have hd := drop_ne a7 (nxt ((a7.length : Nat) : Int) x a9) x h2.1 (by omega) n1
      rw [show ((((((a7.take (nxt ((a7.length : Nat) : Int) x a9).toNat).drop x.toNat).length : Nat) : Int)) == 0) = false from beq_eq_false_iff_ne.2 (by omega)]
      rw [F115_eq k a0 a1 a2 a3 a4 a5 a6 a7 (nxt ((a7.length : Nat) : Int) x a9) a9 a10 a11 a12 a13 a14 a15 a16 a17 a18 a19 a20 a21 a22 a23 (a6 + x) (by omega) hok h14 (by omega) (by omega)]
      simp only [cond_false, Option.bind_some]
      rw [decide_eq_true (by simp; omega)]
      simp only [cond_true]
      exact bytes_spec k a0 a1 a2 a3 a4 a5 a6 a7 a8 a9 a10 a11 a12 a13 a14 a15 a16 a17 a18 a19 a20 a21 a22 a23 h4 hok h14 hk n (nxt ((a7.length : Nat) : Int) x a9) _ (mok_iff.2 ⟨h0, h1, ⟨by omega, n1⟩, h3, h4', chkR_mono (by omega) h5⟩) (by omega) (by simp; omega)
theorem bytes_impl (k : Nat) (a0 a1 a2 a3 a4 a5 a6 : Int) (a7 : List (den (.int .u8))) (a8 a9 : Int) (a10 : List (den rng)) (a11 a12 : Int) (a13 : List (den (.int .u8))) (a14 : List (den erl)) (a15 a16 a17 : Bool) (a18 a19 a20 a21 a22 a23 : Int) (h4 : a0 = 4) (hok : earB a11 a12 a13 a14 = true) (h14 : a14.length ≤ 1048576) (hk : 1048576 < k) : ∀ (n : Nat) (x : Int) (l : sgL), mokB a6 a7 x a9 a10 = true → ((a7.length : Nat) : Int) - x < n → l.length + n ≤ 4194304 →
    F121_l0 k a0 a1 a2 a3 a4 a5 a6 a7 a8 a9 a10 a11 a12 a13 a14 a15 a16 a17 a18 a19 a20 a21 a22 a23 n a6 a7 x a9 a10 a11 a12 a13 a14 a15 a16 a17 a18 a19 a20 a21 a22 a23 l =
      some ((tl (sgE a2 a4 a6 a11 a12 a13 a14 a18) a7 a9 n x l).2, a0, a1, a2, a3, a4, a5, a6, a7, (tl (sgE a2 a4 a6 a11 a12 a13 a14 a18) a7 a9 n x l).1, a9, a10, a11, a12, a13, a14, a15, a16, a17, a18, a19, a20, a21, a22, a23)
  | 0, x, l, hm, hn, _ => by
    obtain ⟨h0, h1, h2, h3, h4, h5⟩ := mok_iff.1 hm
    omega
  | n + 1, x, l, hm, hn, hl => by
    obtain ⟨h0, h1, h2, h3, h4', h5⟩ := mok_iff.1 hm
    obtain ⟨n1, n2, n3⟩ := nxt_le ((a7.length : Nat) : Int) x a9
    rw [F121_l0, tl]
    unfold F121_l0_T
    rw [next_impl k a6 a7 x a9 a10 a11 a12 a13 a14 a15 a16 a17 a18 a19 a20 a21 a22 a23 hm, show (a0 == 4) = true from beq_iff_eq.2 h4]
    by_cases c : nxt ((a7.length : Nat) : Int) x a9 ≤ x
    · rw [decide_eq_true c]
      rfl
    · rw [decide_eq_false c]
      simp only [cond_true, cond_false, Option.bind_some]
      have hd := drop_ne a7 (nxt ((a7.length : Nat) : Int) x a9) x h2.1 (by omega) n1
      rw [show ((((((a7.take (nxt ((a7.length : Nat) : Int) x a9).toNat).drop x.toNat).length : Nat) : Int)) == 0) = false from beq_eq_false_iff_ne.2 (by omega)]
      rw [segData_eq k a0 a1 a2 a3 a4 a5 a6 a7 (nxt ((a7.length : Nat) : Int) x a9) a9 a10 a11 a12 a13 a14 a15 a16 a17 a18 a19 a20 a21 a22 a23 (a6 + x) _ (by omega) hok h14 (by omega) (by omega)]
      simp only [cond_false, Option.bind_some]
      rw [decide_eq_true (by simp; omega)]
      simp only [cond_true]
      exact bytes_impl k a0 a1 a2 a3 a4 a5 a6 a7 a8 a9 a10 a11 a12 a13 a14 a15 a16 a17 a18 a19 a20 a21 a22 a23 h4 hok h14 hk n (nxt ((a7.length : Nat) : Int) x a9) _ (mok_iff.2 ⟨h0, h1, ⟨by omega, n1⟩, h3, h4', chkR_mono (by omega) h5⟩) (by omega) (by simp; omega)
theorem clone_seg (k : Nat) (l : sgL) (h : l.length ≤ 4194304) : F122 k l = some l := by
  simp only [F122, F122_T, F164, F164_T, List.nil_append, List.length_nil, Nat.zero_add]
  rw [decide_eq_true (by omega : l.length * 96 ≤ 140737488355328), decide_eq_true (by omega : (0 : Int) ≤ ((l.length : Nat) : Int))]
  cases l with
  | nil => rfl
  | cons a r =>
    rw [show ((((a :: r).length : Nat) : Int) == 0) = false by rw [beq_eq_false_iff_ne]; simp only [List.length_cons]; omega]
    simp
/-- what is told at last, and when something goes again -/
theorem tell_eq (k : Nat) (a0 a1 a2 a3 a4 a5 a6 : Int) (a7 : List (den (.int .u8))) (a8 a9 : Int) (a10 : List (den rng)) (a11 a12 : Int) (a13 : List (den (.int .u8))) (a14 : List (den erl)) (a15 a16 a17 : Bool) (a18 a19 a20 a21 a22 a23 : Int) (now : Int) (h4 : a0 = 4) (hm : mokB a6 a7 a8 a9 a10 = true) (hok : earB a11 a12 a13 a14 = true) (h14 : a14.length ≤ 1048576) (hk : 1048576 < k) (hk2 : k ≤ 4194304)
    (hopn : ¬ Opn a0 (a7.length : Int) a16 a17 → a19 = 0 ∧ (a20 = 0 ∨ a0 = 5)) :
    ∃ (x D : Int) (l : sgL), F119 k a0 a1 a2 a3 a4 a5 a6 a7 a8 a9 a10 a11 a12 a13 a14 a15 a16 a17 a18 a19 a20 a21 a22 a23 = some (a0, a1, a2, a3, a4, a5, a6, a7, x, a9, a10, a11, a12, a13, a14, a15, a16, a17, a18, a19, a20, a21, a22, a23, l) ∧
      F121 k a0 a1 a2 a3 a4 a5 a6 a7 a8 a9 a10 a11 a12 a13 a14 a15 a16 a17 a18 a19 a20 a21 a22 a23 = some (l, a0, a1, a2, a3, a4, a5, a6, a7, x, a9, a10, a11, a12, a13, a14, a15, a16, a17, a18, a19, a20, a21, a22, a23) ∧
      F80 k a0 a1 a2 a3 a4 a5 a6 a7 x a9 a10 a11 a12 a13 a14 a15 a16 a17 a18 a19 a20 a21 a22 a23 now false = some (a0, a1, a2, a3, a4, a5, a6, a7, x, a9, a10, a11, a12, a13, a14, a15, a16, a17, a18, D, a20, a21, a22, a23) ∧
      F86 k a0 a1 a2 a3 a4 a5 a6 a7 x a9 a10 a11 a12 a13 a14 a15 a16 a17 a18 a19 a20 a21 a22 a23 now = some (a0, a1, a2, a3, a4, a5, a6, a7, x, a9, a10, a11, a12, a13, a14, a15, a16, a17, a18, D, a20, a21, a22, a23) ∧
      l.length ≤ 32 ∧ ∀ s ∈ l, shortS 20 s := by
  obtain ⟨h0, h1, h2, h3, h4', h5⟩ := mok_iff.1 hm
  have hb := tl_bound (sgE a2 a4 a6 a11 a12 a13 a14 a18) a7 a9 (fun x d hd => ⟨by simp [sgE]; have := rgs_len a14; omega, by simp [sgE]; omega⟩) k a8 [] h2.1 h2.2 (by simp)
  have bs' := bytes_spec k a0 a1 a2 a3 a4 a5 a6 a7 a8 a9 a10 a11 a12 a13 a14 a15 a16 a17 a18 a19 a20 a21 a22 a23 h4 hok h14 hk k a8 [] hm (by omega) (by simp; omega)
  have bi' := bytes_impl k a0 a1 a2 a3 a4 a5 a6 a7 a8 a9 a10 a11 a12 a13 a14 a15 a16 a17 a18 a19 a20 a21 a22 a23 h4 hok h14 hk k a8 [] hm (by omega) (by simp; omega)
  generalize tl (sgE a2 a4 a6 a11 a12 a13 a14 a18) a7 a9 k a8 [] = r at *
  obtain ⟨x, l⟩ := r
  obtain ⟨b1, b2, b3, b4⟩ := hb
  simp only [List.length_nil] at b1 b2 b3 b4 bs' bi'
  obtain ⟨D, ds, di⟩ := arm_eq k a0 a1 a2 a3 a4 a5 a6 a7 x a9 a10 a11 a12 a13 a14 a15 a16 a17 a18 a19 a20 a21 a22 a23 now ⟨by omega, b2⟩ hopn
  exact ⟨x, D, l, bs', bi', ds, di, by omega, b4⟩
theorem wr_eq (n : Nat) (a0 a1 a2 a3 a4 a5 a6 : Int) (a7 : List (den (.int .u8))) (a8 a9 : Int) (a10 : List (den rng)) (a11 a12 : Int) (a13 : List (den (.int .u8))) (a14 : List (den erl)) (a15 a16 a17 : Bool) (a18 a19 a20 a21 a22 a23 : Int) (data : u8L) (now : Int) (h : shortE 1048576 a7 a10 a13 a14) (hd : data.length ≤ 1048576) (hk : 1048576 < n + 4) (hk2 : n + 4 ≤ 4194304) :
    ∃ (r0 r1 r2 r3 r4 r5 r6 : Int) (r7 : List (den (.int .u8))) (r8 r9 : Int) (r10 : List (den rng)) (r11 r12 : Int) (r13 : List (den (.int .u8))) (r14 : List (den erl)) (r15 r16 r17 : Bool) (r18 r19 r20 r21 r22 r23 : Int) (c : Int) (l : sgL), F39 (n + 4) a0 a1 a2 a3 a4 a5 a6 a7 a8 a9 a10 a11 a12 a13 a14 a15 a16 a17 a18 a19 a20 a21 a22 a23 data now = some (r0, r1, r2, r3, r4, r5, r6, r7, r8, r9, r10, r11, r12, r13, r14, r15, r16, r17, r18, r19, r20, r21, r22, r23, c, l) ∧
      F41 (n + 4) a0 a1 a2 a3 a4 a5 a6 a7 a8 a9 a10 a11 a12 a13 a14 a15 a16 a17 a18 a19 a20 a21 a22 a23 data now = some (r0, r1, r2, r3, r4, r5, r6, r7, r8, r9, r10, r11, r12, r13, r14, r15, r16, r17, r18, r19, r20, r21, r22, r23, c, l) ∧
      shortE 1048576 r7 r10 r13 r14 ∧ l.length ≤ 32 ∧ ∀ s ∈ l, shortS 20 s := by
  obtain ⟨h7, h10, h13, h14⟩ := h
  have h : shortE 1048576 a7 a10 a13 a14 := ⟨h7, h10, h13, h14⟩
  obtain ⟨b, hs, hi, hbo⟩ := (F76_is (n + 4) a0 a1 a2 a3 a4 a5 a6 a7 a8 a9 a10 a11 a12 a13 a14 a15 a16 a17 a18 a19 a20 a21 a22 a23 (by omega) h14 (by omega)).eq (F35_is (n + 4) a0 a1 a2 a3 a4 a5 a6 a7 a8 a9 a10 a11 a12 a13 a14 a15 a16 a17 a18 a19 a20 a21 a22 a23 (by omega) h13 h14 (by omega))
  unfold F39 F39_T F41 F41_T F84 F84_T F39_j1 F41_j1
  rw [hs, hi]
  simp only [Option.bind_some, F77_eq, F106_eq]
  cases b with
  | false => exact ⟨0, 0, 0, 0, 0, 0, 0, [], 0, 0, [], 0, 0, [], [], false, false, false, 0, 0, 0, 0, 0, 0, 0, [], rfl, rfl, ⟨by simp, by simp, by simp, by simp⟩, by simp, by simp⟩
  | true =>
    cases hn : inB now 0 900000 with
    | false => exact ⟨0, 0, 0, 0, 0, 0, 0, [], 0, 0, [], 0, 0, [], [], false, false, false, 0, 0, 0, 0, 0, 0, 0, [], rfl, rfl, ⟨by simp, by simp, by simp, by simp⟩, by simp, by simp⟩
    | true =>
      obtain ⟨_, _, _, _, _, _, c7, _, c9, _, _, _, c17, c16, _, _, copn, _⟩ := hbo.1 rfl
      have hm := (mok_iff.1 c7)
      have cs := F78_eq (n + 4) a0 a1 a2 a3 a4 a5 a6 a7 a8 a9 a10 a11 a12 a13 a14 a15 a16 a17 a18 a19 a20 a21 a22 a23 h
      have ci := F85_eq (n + 4) a0 a1 a2 a3 a4 a5 a6 a7 a8 a9 a10 a11 a12 a13 a14 a15 a16 a17 a18 a19 a20 a21 a22 a23 h
      rw [cs, ci]
      simp only [Option.bind_some, Bool.not_true, cond_false, cond_true]
      by_cases e4 : a0 = 4
      · have n4 : (a0 != 4) = false := by rw [e4]; rfl
        have n5 : (a0 != 5) = true := by rw [e4]; rfl
        rw [n4, n5]
        simp only [cond_true, cond_false]
        cases a15 with
        | true =>
          simp only [Bool.not_true, cond_false]
          obtain ⟨x, D, l, t1, t2, t3, t4, t5, t6⟩ := tell_eq (n + 4) a0 a1 a2 a3 a4 a5 a6 a7 a8 a9 a10 a11 a12 a13 a14 true a16 a17 a18 a19 a20 a21 a22 a23 now e4 c7 c9 h14 hk hk2 (fun e => copn.resolve_left e)
          rw [t1, t2]
          simp only [Option.bind_some]
          rw [t3, t4]
          simp only [Option.bind_some]
          rw [clone_seg (n + 4) l (by omega)]
          exact ⟨_, _, _, _, _, _, _, _, _, _, _, _, _, _, _, _, _, _, _, _, _, _, _, _, _, _, rfl, rfl, h, t5, t6⟩
        | false =>
          simp only [Bool.not_false, cond_true]
          obtain ⟨d, w1, w2, w3⟩ := write_eq n a6 a7 a8 a9 a10 data c7 hd
          rw [w1, w2]
          simp only [Option.bind_some]
          have hm2 : mokB a6 (a7 ++ d) a8 a9 a10 = true := by
            obtain ⟨q0, q1, q2, q3, q4, q5⟩ := hm
            exact mok_iff.2 ⟨q0, by rw [List.length_append]; omega, ⟨q2.1, by rw [List.length_append]; omega⟩, q3, q4, q5⟩
          obtain ⟨x, D, l, t1, t2, t3, t4, t5, t6⟩ := tell_eq (n + 4) a0 a1 a2 a3 a4 a5 a6 (a7 ++ d) a8 a9 a10 a11 a12 a13 a14 false a16 a17 a18 a19 a20 a21 a22 a23 now e4 hm2 c9 h14 hk hk2 (fun e => copn.resolve_left fun o => e (by
            rcases o with o | o | ⟨o1, o2⟩
            · exact .inl o
            · exact .inr (.inl o)
            · refine .inr (.inr ⟨o1, o2.imp (fun o => ?_) id⟩)
              rw [List.length_append]
              omega))
          rw [t1, t2]
          simp only [Option.bind_some]
          rw [t3, t4]
          simp only [Option.bind_some]
          rw [clone_seg (n + 4) l (by omega)]
          exact ⟨_, _, _, _, _, _, _, _, _, _, _, _, _, _, _, _, _, _, _, _, _, _, _, _, _, _, rfl, rfl, ⟨by rw [List.length_append]; omega, h10, h13, h14⟩, t5, t6⟩
      · have n4 : (a0 != 4) = true := bne_iff_ne.2 e4
        rw [n4]
        simp only [cond_true]
        cases a15 with
        | true => exact ⟨_, _, _, _, _, _, _, _, _, _, _, _, _, _, _, _, _, _, _, _, _, _, _, _, _, _, rfl, rfl, h, by simp, by simp⟩
        | false =>
          simp only [Bool.not_false, cond_true]
          cases (a0 != 5) with
          | false => exact ⟨_, _, _, _, _, _, _, _, _, _, _, _, _, _, _, _, _, _, _, _, _, _, _, _, _, _, rfl, rfl, h, by simp, by simp⟩
          | true =>
            obtain ⟨d, w1, w2, w3⟩ := write_eq n a6 a7 a8 a9 a10 data c7 hd
            rw [w1, w2]
            exact ⟨_, _, _, _, _, _, _, _, _, _, _, _, _, _, _, _, _, _, _, _, _, _, _, _, _, _, rfl, rfl, ⟨by rw [List.length_append]; omega, h10, h13, h14⟩, by simp, by simp⟩
theorem sum_many : ∀ (l : sgL), (∀ s ∈ l, shortS 20 s) → sumS wS l ≤ 100 * (l.length : Int)
  | [], _ => by simp [sumS]
  | s :: l, h => by
    obtain ⟨h9, h10⟩ := h s (by simp)
    have := sum_many l (fun x hx => h x (by simp [hx]))
    simp only [sumS, wS, List.length_cons]
    omega
theorem write_true (a0 a1 a2 a3 a4 a5 a6 : Int) (a7 : List (den (.int .u8))) (a8 a9 : Int) (a10 : List (den rng)) (a11 a12 : Int) (a13 : List (den (.int .u8))) (a14 : List (den erl)) (a15 a16 a17 : Bool) (a18 a19 a20 a21 a22 a23 : Int) (data : u8L) (now : Int) (hd : data.length ≤ maxLen) (h7 : a7.length ≤ maxLen) (h10 : a10.length ≤ maxLen) (h13 : a13.length ≤ maxLen) (h14 : a14.length ≤ maxLen) : F8 (4000000 + 4) a0 a1 a2 a3 a4 a5 a6 a7 a8 a9 a10 a11 a12 a13 a14 a15 a16 a17 a18 a19 a20 a21 a22 a23 data now = some true := by
  generalize hk : 4000000 = n
  obtain ⟨r, z1, z2⟩ := szEnd_eq (n + 4) a0 a1 a2 a3 a4 a5 a6 a7 a8 a9 a10 a11 a12 a13 a14 a15 a16 a17 a18 a19 a20 a21 a22 a23 h7 h10 h13 h14
  unfold F8 F8_T
  by_cases hdl : ((data.length : Nat) : Int) > 1048576
  · exact (ct (decide_eq_true hdl)).trans rfl
  refine (cf (decide_eq_false hdl)).trans ?_
  refine (bs z1).trans ?_
  by_cases hr : r < 0
  · exact (ct (decide_eq_true hr)).trans rfl
  refine (cf (decide_eq_false hr)).trans ?_
  obtain ⟨_, hsum⟩ := z2.resolve_left hr
  have h : shortE 1048576 a7 a10 a13 a14 := ⟨by omega, by omega, by omega, by omega⟩
  have cp := F21_eq (n + 4) a0 a1 a2 a3 a4 a5 a6 a7 a8 a9 a10 a11 a12 a13 a14 a15 a16 a17 a18 a19 a20 a21 a22 a23 h (by omega)
  have cd := F40_eq (n + 4) data (by omega) (by omega)
  obtain ⟨r0, r1, r2, r3, r4, r5, r6, r7, r8, r9, r10, r11, r12, r13, r14, r15, r16, r17, r18, r19, r20, r21, r22, r23, c, l, es, ei, hr', hl1, hl3⟩ := wr_eq n a0 a1 a2 a3 a4 a5 a6 a7 a8 a9 a10 a11 a12 a13 a14 a15 a16 a17 a18 a19 a20 a21 a22 a23 data now h (by omega) (by omega) (by omega)
  have sl := sum_many l hl3
  have slp := sumS_nonneg wS_pos l
  have eqr := F23_self (n + 4) r0 r1 r2 r3 r4 r5 r6 r7 r8 r9 r10 r11 r12 r13 r14 r15 r16 r17 r18 r19 r20 r21 r22 r23 hr' (by omega)
  have eqa := F23_self (n + 4) a0 a1 a2 a3 a4 a5 a6 a7 a8 a9 a10 a11 a12 a13 a14 a15 a16 a17 a18 a19 a20 a21 a22 a23 h (by omega)
  have eqd := F42_self (n + 4) data (by omega) (by omega)
  have eql := F24_self (n + 4) l 20 (by omega) (by omega) hl3 (by omega) (by omega)
  have ma := F25_eq (n + 4) a0 a1 a2 a3 a4 a5 a6 a7 a8 a9 a10 a11 a12 a13 a14 a15 a16 a17 a18 a19 a20 a21 a22 a23 1 h (by omega) (by omega) (by omega)
  have mr := F25_eq (n + 4) r0 r1 r2 r3 r4 r5 r6 r7 r8 r9 r10 r11 r12 r13 r14 r15 r16 r17 r18 r19 r20 r21 r22 r23 1 hr' (by omega) (by omega) (by omega)
  have hdd := F27_eq (n + 4) r0 r1 r2 r3 r4 r5 r6 r7 r8 r9 r10 r11 r12 r13 r14 r15 r16 r17 r18 r19 r20 r21 r22 r23 1 hr' (by omega) (by omega) (by omega)
  obtain ⟨xa1, xa2⟩ := x4E_bound 1 a7 a10 a13 a14 h (by omega)
  obtain ⟨xr1, xr2⟩ := x4E_bound 1 r7 r10 r13 r14 hr' (by omega)
  have md := F43_eq (n + 4) data (x4E 1 a7 a10 a13 a14) (by omega) (by omega) (by omega)
  generalize hxr : x4E 1 r7 r10 r13 r14 = xr at *
  have ml' := F26_eq (n + 4) l xr 20 (by omega) (by omega) hl3 (by omega) (by omega) (by omega)
  have hl' := F28_eq (n + 4) l xr 20 (by omega) (by omega) hl3 (by omega) (by omega) (by omega)
  have p1 : decide (x4E 1 a7 a10 a13 a14 + ((data.length : Nat) : Int) < 0) = false := decide_eq_false (by omega)
  have p2 : decide (xr < 0) = false := decide_eq_false (by omega)
  have p3 : decide (xr + sumS wS l < 0) = false := decide_eq_false (by omega)
  have p4 : (xr + sumS wS l != xr + sumS wS l) = false := by simp
  have pc : (c != c) = false := by simp
  refine (bs cp).trans ?_
  refine (bs cd).trans ?_
  refine (bs es).trans ?_
  refine (bs cp).trans ?_
  refine (bs cd).trans ?_
  refine (bs ei).trans ?_
  refine (bs eqr).trans ?_
  refine (cf rfl).trans ?_
  refine (cf pc).trans ?_
  refine (bs eql).trans ?_
  refine (cf rfl).trans ?_
  refine (bs cp).trans ?_
  refine (bs eqa).trans ?_
  refine (cf rfl).trans ?_
  refine (bs cd).trans ?_
  refine (bs eqd).trans ?_
  refine (cf rfl).trans ?_
  refine (bs ma).trans ?_
  refine (bs md).trans ?_
  refine (cf p1).trans ?_
  refine (bs eqr).trans ?_
  refine (cf rfl).trans ?_
  refine (cf pc).trans ?_
  refine (bs eql).trans ?_
  refine (cf rfl).trans ?_
  refine (bs mr).trans ?_
  refine (bs ml').trans ?_
  refine (bs hdd).trans ?_
  refine (cf p2).trans ?_
  refine (bs hl').trans ?_
  refine (cf p3).trans ?_
  refine (cf p4).trans ?_
  refine (bs cp).trans ?_
  refine (bs cd).trans ?_
  refine (bs ei).trans ?_
  refine (bs eqr).trans ?_
  refine (cf rfl).trans ?_
  refine (cf pc).trans ?_
  refine (bs eql).trans ?_
  refine (cf rfl).trans ?_
  refine (bs hdd).trans ?_
  refine (cf p2).trans ?_
  refine (bs hl').trans ?_
  refine (cf p3).trans ?_
  exact (cf p4).trans rfl
theorem pureL (x : den fin) (hx : Wf fin x) (data : u8L) (hdw : Wf (.sl (.int .u8)) data) (hdb : data.length * 1 ≤ 140737488351232) (now : Int) (h3 : (Lit.int .i64 now).wf = true) :
    ∃ k, (∀ (x : den fin) (data : u8L) (now : Int), Contract Try.prog 8 [.agg ((Rf.enc .ro fin x).map .l), .one (.l (.s .ro (.int .u8) data)), .one (.l (.v (.int .i64 now)))] ⟨F8 k x.1 x.2.1 x.2.2.1 x.2.2.2.1 x.2.2.2.2.1 x.2.2.2.2.2.1 x.2.2.2.2.2.2.1.1 x.2.2.2.2.2.2.1.2.1 x.2.2.2.2.2.2.1.2.2.1 x.2.2.2.2.2.2.1.2.2.2.1 x.2.2.2.2.2.2.1.2.2.2.2 x.2.2.2.2.2.2.2.1.1 x.2.2.2.2.2.2.2.1.2.1 x.2.2.2.2.2.2.2.1.2.2.1 x.2.2.2.2.2.2.2.1.2.2.2 x.2.2.2.2.2.2.2.2.1 x.2.2.2.2.2.2.2.2.2.1 x.2.2.2.2.2.2.2.2.2.2.1 x.2.2.2.2.2.2.2.2.2.2.2.1 x.2.2.2.2.2.2.2.2.2.2.2.2.1 x.2.2.2.2.2.2.2.2.2.2.2.2.2.1 x.2.2.2.2.2.2.2.2.2.2.2.2.2.2.1 x.2.2.2.2.2.2.2.2.2.2.2.2.2.2.2.1 x.2.2.2.2.2.2.2.2.2.2.2.2.2.2.2.2 data now, fun r => (.one (.v (.bool r)), [])⟩) ∧ F8 k x.1 x.2.1 x.2.2.1 x.2.2.2.1 x.2.2.2.2.1 x.2.2.2.2.2.1 x.2.2.2.2.2.2.1.1 x.2.2.2.2.2.2.1.2.1 x.2.2.2.2.2.2.1.2.2.1 x.2.2.2.2.2.2.1.2.2.2.1 x.2.2.2.2.2.2.1.2.2.2.2 x.2.2.2.2.2.2.2.1.1 x.2.2.2.2.2.2.2.1.2.1 x.2.2.2.2.2.2.2.1.2.2.1 x.2.2.2.2.2.2.2.1.2.2.2 x.2.2.2.2.2.2.2.2.1 x.2.2.2.2.2.2.2.2.2.1 x.2.2.2.2.2.2.2.2.2.2.1 x.2.2.2.2.2.2.2.2.2.2.2.1 x.2.2.2.2.2.2.2.2.2.2.2.2.1 x.2.2.2.2.2.2.2.2.2.2.2.2.2.1 x.2.2.2.2.2.2.2.2.2.2.2.2.2.2.1 x.2.2.2.2.2.2.2.2.2.2.2.2.2.2.2.1 x.2.2.2.2.2.2.2.2.2.2.2.2.2.2.2.2 data now = some true := by
  obtain ⟨x0, x1, x2, x3, x4, x5, ⟨x6, x7, x8, x9, x10⟩, ⟨x11, x12, x13, x14⟩, x15, x16, x17, x18, x19, x20, x21, x22, x23⟩ := x
  obtain ⟨_, _, _, _, _, _, ⟨_, w7, _, _, w10⟩, ⟨_, _, w13, w14⟩, _⟩ := hx
  exact ⟨_, fun x data now => F8_con _ x.1 x.2.1 x.2.2.1 x.2.2.2.1 x.2.2.2.2.1 x.2.2.2.2.2.1 x.2.2.2.2.2.2.1.1 x.2.2.2.2.2.2.1.2.1 x.2.2.2.2.2.2.1.2.2.1 x.2.2.2.2.2.2.1.2.2.2.1 x.2.2.2.2.2.2.1.2.2.2.2 x.2.2.2.2.2.2.2.1.1 x.2.2.2.2.2.2.2.1.2.1 x.2.2.2.2.2.2.2.1.2.2.1 x.2.2.2.2.2.2.2.1.2.2.2 x.2.2.2.2.2.2.2.2.1 x.2.2.2.2.2.2.2.2.2.1 x.2.2.2.2.2.2.2.2.2.2.1 x.2.2.2.2.2.2.2.2.2.2.2.1 x.2.2.2.2.2.2.2.2.2.2.2.2.1 x.2.2.2.2.2.2.2.2.2.2.2.2.2.1 x.2.2.2.2.2.2.2.2.2.2.2.2.2.2.1 x.2.2.2.2.2.2.2.2.2.2.2.2.2.2.2.1 x.2.2.2.2.2.2.2.2.2.2.2.2.2.2.2.2 data now, write_true x0 x1 x2 x3 x4 x5 x6 x7 x8 x9 x10 x11 x12 x13 x14 x15 x16 x17 x18 x19 x20 x21 x22 x23 data now hdw.1 w7.1 w10.1 w13.1 w14.1⟩
end Go.Proofs.Ytkkgcidigiokfaa.Gn
end
