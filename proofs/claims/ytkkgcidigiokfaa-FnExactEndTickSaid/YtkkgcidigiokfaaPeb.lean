/-
  What the functions that the law reaches answer. (A part of the proofs of this seat.)
-/
import Derived.Test.YtkkgcidigiokfaaPea
import Derived.Test.YtkkgcidigiokfaaGec

section
set_option linter.unusedVariables false
set_option linter.unusedSimpArgs false
/-
  An end at a time: the plain functions, in plain words.
-/
namespace Go.Proofs.Ytkkgcidigiokfaa.Gn
open Go.Rf Go.IntWalk

/-! ### the last mark -/
theorem last_eq (k : Nat) (a0 a1 a2 a3 a4 a5 a6 : Int) (a7 : List (den (.int .u8))) (a8 a9 : Int) (a10 : List (den rng)) (a11 a12 : Int) (a13 : List (den (.int .u8))) (a14 : List (den erl)) (a15 a16 a17 : Bool) (a18 a19 a20 a21 a22 a23 : Int) (h0 : a0 ≠ 2) (hok : earB a11 a12 a13 a14 = true) (hl : a14.length ≤ 1048576) (hk : a14.length < k) (hk4 : 4 ≤ k) :
    F79 k a0 a1 a2 a3 a4 a5 a6 a7 a8 a9 a10 a11 a12 a13 a14 a15 a16 a17 a18 a19 a20 a21 a22 a23 = some (a2, a4, seqOf (IntKind.i64.wrap (a6 + ((a7.length : Nat) : Int))), seqOf (waitE a11 a18), a12 - ((a13.length : Nat) : Int), false, true, true, false, (rgs a14).map sq, []) ∧
      F87 k a0 a1 a2 a3 a4 a5 a6 a7 a8 a9 a10 a11 a12 a13 a14 a15 a16 a17 a18 a19 a20 a21 a22 a23 = some (a2, a4, seqOf (IntKind.i64.wrap (a6 + ((a7.length : Nat) : Int))), seqOf (waitE a11 a18), a12 - ((a13.length : Nat) : Int), false, true, true, false, (rgs a14).map sq, []) := by
  constructor
  · unfold F79 F79_T
    exact (bs (F115_eq k a0 a1 a2 a3 a4 a5 a6 a7 a8 a9 a10 a11 a12 a13 a14 a15 a16 a17 a18 a19 a20 a21 a22 a23 _ h0 hok hl hk hk4)).trans rfl
  · unfold F87 F87_T
    exact (bs (F149_eq k a0 a1 a2 a3 a4 a5 a6 a7 a8 a9 a10 a11 a12 a13 a14 a15 a16 a17 a18 a19 a20 a21 a22 a23 _ hok hl hk hk4)).trans rfl

/-! ### what goes again -/
theorem copyData (k : Nat) (a0 a1 a2 a3 a4 : Int) (a5 a6 a7 a8 : Bool) (a9 : List (den rng)) (a10 : List (den (.int .u8))) (h9 : a9.length ≤ 4194304) (h10 : a10.length ≤ 4194304) : F68_2 k a0 a1 a2 a3 a4 a5 a6 a7 a8 a9 a10 = some (a0, a1, a2, a3, a4, a5, a6, a7, a8, a9, a10) := by
  simp only [F68_2, F68_2_T]
  rw [F136_eq k a9 h9, F137_eq k a10 h10]; rfl
theorem segData_l (k : Nat) (a0 a1 a2 a3 a4 a5 a6 : Int) (a7 : List (den (.int .u8))) (a8 a9 : Int) (a10 : List (den rng)) (a11 a12 : Int) (a13 : List (den (.int .u8))) (a14 : List (den erl)) (a15 a16 a17 : Bool) (a18 a19 a20 a21 a22 a23 : Int) (at' : Int) (data : u8L) (c2 c3 c4 : Int) (l : List (Int × Int)) (hl : l.length ≤ 2) (hd : data.length ≤ 4194304) (hk : 4 ≤ k) :
    F149_2_l0 k a0 a1 a2 a3 a4 a5 a6 a7 a8 a9 a10 a11 a12 a13 a14 a15 a16 a17 a18 a19 a20 a21 a22 a23 at' data k ((l.length : Nat) : Int) 0 c2 c3 c4 [] l = some (a2, a4, c2, c3, c4, false, true, false, false, l.map sq, data) := by
  have := foldLoopI l (fun j (m : List (Int × Int)) => m.length ≤ j) (fun n m j => F149_2_l0 k a0 a1 a2 a3 a4 a5 a6 a7 a8 a9 a10 a11 a12 a13 a14 a15 a16 a17 a18 a19 a20 a21 a22 a23 at' data n ((l.length : Nat) : Int) j c2 c3 c4 m l) (fun m r => m ++ [sq r])
    (fun m => (a2, a4, c2, c3, c4, false, true, false, false, m, data))
    (fun n m j h hp => by
      rw [F149_2_l0]
      unfold F149_2_l0_T
      rw [atI_get (t := rng) l j h, up1 j (by omega), decide_eq_true (by omega : ((j : Nat) : Int) < (l.length : Nat)), decide_eq_true (by omega : (0 : Int) ≤ (j : Nat)), seqI, seqI]
      simp only [cond_true, Option.bind_some]
      rw [decide_eq_true (by simp; omega)]
      rfl)
    (fun m j h hp => by simp; omega)
    (fun n m hp => by
      rw [F149_2_l0]
      unfold F149_2_l0_T
      rw [decide_eq_false (by omega : ¬ ((l.length : Nat) : Int) < (l.length : Nat)), cond_false, copyData k _ _ _ _ _ _ _ _ _ m data (by omega) hd]; rfl) k [] 0 (Nat.zero_le _) (by omega) (by simp)
  rw [List.drop_zero, foldl_app, List.nil_append] at this
  exact this
theorem segData_eq (k : Nat) (a0 a1 a2 a3 a4 a5 a6 : Int) (a7 : List (den (.int .u8))) (a8 a9 : Int) (a10 : List (den rng)) (a11 a12 : Int) (a13 : List (den (.int .u8))) (a14 : List (den erl)) (a15 a16 a17 : Bool) (a18 a19 a20 a21 a22 a23 : Int) (at' : Int) (data : u8L) (hd : data.length ≤ 4194304) (hok : earB a11 a12 a13 a14 = true) (hl : a14.length ≤ 1048576) (hk : a14.length < k) (hk4 : 4 ≤ k) :
    F149_2 k a0 a1 a2 a3 a4 a5 a6 a7 a8 a9 a10 a11 a12 a13 a14 a15 a16 a17 a18 a19 a20 a21 a22 a23 at' data = some (a2, a4, seqOf at', seqOf (waitE a11 a18), a12 - ((a13.length : Nat) : Int), false, true, false, false, (rgs a14).map sq, data) := by
  obtain ⟨_, h1, h2, _⟩ := ear_iff.1 hok
  have hw : F171 k a0 a1 a2 a3 a4 a5 a6 a7 a8 a9 a10 a11 a12 a13 a14 a15 a16 a17 a18 a19 a20 a21 a22 a23 = some (waitE a11 a18) := by unfold F171 waitE; rw [some_cond]
  have hf : F124 k a11 a12 a13 a14 = some (a12 - ((a13.length : Nat) : Int)) := by unfold F124; rw [i64_in _ (by omega)]
  unfold F149_2 F149_2_T
  refine (bs (seqI k at')).trans ?_
  refine (bs hw).trans ?_
  refine (bs (seqI k _)).trans ?_
  refine (bs hf).trans ?_
  refine (bs (F172_eq k a11 a12 a13 a14 hok hl hk)).trans ?_
  exact segData_l k a0 a1 a2 a3 a4 a5 a6 a7 a8 a9 a10 a11 a12 a13 a14 a15 a16 a17 a18 a19 a20 a21 a22 a23 at' data _ _ _ (rgs a14) (rgs_len _) hd hk4
theorem seqOf_small (a : Int) (h : 0 ≤ a ∧ a ≤ 65535) : seqOf a = a := by
  unfold seqOf
  rw [Int.tmod_eq_of_lt h.1 (by omega), decide_eq_false (by omega)]
  rfl
theorem first_eq (k : Nat) (a0 a1 a2 a3 a4 a5 a6 : Int) (a7 : List (den (.int .u8))) (a8 a9 : Int) (a10 : List (den rng)) (a11 a12 : Int) (a13 : List (den (.int .u8))) (a14 : List (den erl)) (a15 a16 a17 : Bool) (a18 a19 a20 a21 a22 a23 : Int) (h5 : 0 ≤ a5 ∧ a5 ≤ 65535) (hok : earB a11 a12 a13 a14 = true) (hl : a14.length ≤ 1048576) (hk : a14.length < k) (hk4 : 4 ≤ k) :
    ∃ (s0 s1 s2 s3 s4 : Int) (s5 s6 s7 s8 : Bool) (s9 : List (den rng)) (s10 : List (den (.int .u8))), F95 k a0 a1 a2 a3 a4 a5 a6 a7 a8 a9 a10 a11 a12 a13 a14 a15 a16 a17 a18 a19 a20 a21 a22 a23 = some (s0, s1, s2, s3, s4, s5, s6, s7, s8, s9, s10) ∧ F98 k a0 a1 a2 a3 a4 a5 a6 a7 a8 a9 a10 a11 a12 a13 a14 a15 a16 a17 a18 a19 a20 a21 a22 a23 = some (s0, s1, s2, s3, s4, s5, s6, s7, s8, s9, s10) ∧ s9.length ≤ 2 ∧ s10.length ≤ 2 := by
  by_cases h0 : a0 = 2
  · subst h0
    refine ⟨a2, a4, a5, 0, 0, true, false, false, false, [], [], ?_, ?_, by simp, by simp⟩
    · unfold F95 F95_T F115 F115_T
      rw [F61_val, seqOf_small a5 h5]
      rfl
    · unfold F98 F98_T
      rfl
  · refine ⟨a2, a4, seqOf a5, seqOf (waitE a11 a18), a12 - ((a13.length : Nat) : Int), true, true, false, false, (rgs a14).map sq, [], ?_, ?_, by simp [rgs_len], by simp⟩
    · unfold F95 F95_T
      exact (bs (F115_eq k a0 a1 a2 a3 a4 a5 a6 a7 a8 a9 a10 a11 a12 a13 a14 a15 a16 a17 a18 a19 a20 a21 a22 a23 _ h0 hok hl hk hk4)).trans rfl
    · unfold F98 F98_T
      exact (cf (beq_eq_false_iff_ne.2 h0)).trans ((bs (F149_eq k a0 a1 a2 a3 a4 a5 a6 a7 a8 a9 a10 a11 a12 a13 a14 a15 a16 a17 a18 a19 a20 a21 a22 a23 _ hok hl hk hk4)).trans rfl)
theorem again_eq (k : Nat) (m0 : Int) (m1 : List (den (.int .u8))) (m2 m3 : Int) (m4 : List (den rng)) (hok : mokB m0 m1 m2 m3 m4 = true) (hk : 4 ≤ k) :
    ∃ b : u8L, F114 k m0 m1 m2 m3 m4 12 = some (m0, b) ∧ F161 k m0 m1 m2 m3 m4 12 = some b ∧ b.length ≤ 12 ∧ (0 < m2 → 0 < b.length) ∧ (m2 = 0 → b = []) := by
  obtain ⟨h0, h1, h2, h3, h4, h5⟩ := mok_iff.1 hok
  obtain ⟨n, e1, e2, e3, e4⟩ : ∃ n : Int, (if 12 < m2 then (12 : Int) else m2) = n ∧ (if m2 < 12 then m2 else (12 : Int)) = n ∧ (n ≤ 12 ∧ n ≤ m2) ∧ (n = 12 ∨ n = m2) := by
    by_cases c : m2 < 12
    · exact ⟨m2, if_neg (by omega), if_pos c, by omega, .inr rfl⟩
    · by_cases c2 : 12 < m2
      · exact ⟨12, if_pos c2, if_neg c, by omega, .inl rfl⟩
      · exact ⟨m2, if_neg c2, by rw [if_neg c]; omega, by omega, .inr rfl⟩
  unfold F114 F114_T F161 F161_T
  rw [F141_eq k m0 m1 m2 m3 m4 hk, hok, F77_eq, e1, e2]
  simp only [Option.bind_some, Bool.not_true, cond_false, List.nil_append, List.length_nil, Nat.zero_add]
  rw [show inB 12 1 12 = true from rfl]
  simp only [Bool.not_true, cond_false]
  have main : ∀ x : Int, 0 ≤ x → x ≤ n → (0 < m2 → 0 < x) → (m2 = 0 → x = 0) →
      ∃ b : u8L, (cond (decide (0 ≤ x) && decide (x ≤ ((m1.length : Nat) : Int))) (cond (decide ((m1.take x.toNat).length * 1 ≤ 140737488355328)) (some (m0, m1.take x.toNat)) none) none) = some (m0, b) ∧
        (cond (decide (0 ≤ x) && decide (x ≤ ((m1.length : Nat) : Int))) ((F137 k (m1.take x.toNat)).bind fun b1 => some b1) none) = some b ∧ b.length ≤ 12 ∧ (0 < m2 → 0 < b.length) ∧ (m2 = 0 → b = []) := by
    intro x hx hxn hp hz
    have hlen : (m1.take x.toNat).length = x.toNat := by rw [List.length_take]; omega
    rw [decide_eq_true hx, decide_eq_true (by omega : x ≤ ((m1.length : Nat) : Int)), F137_eq k _ (by omega), decide_eq_true (by omega : (m1.take x.toNat).length * 1 ≤ 140737488355328)]
    refine ⟨m1.take x.toNat, rfl, rfl, by omega, fun h => ?_, fun h => ?_⟩
    · have := hp h; omega
    · rw [hz h]; rfl
  cases m4 with
  | nil =>
    rw [show decide (((([] : rgL).length : Nat) : Int) > 0) = false from rfl]
    simp only [cond_false]
    exact main n (by omega) (by omega) (by omega) (by omega)
  | cons r l =>
    obtain ⟨u, v⟩ := r
    have e0 : atI ((u, v) :: l : rgL) 0 = (u, v) := rfl
    simp only [chkR, Bool.and_eq_true, decide_eq_true_eq] at h5
    rw [e0, decide_eq_true (by simp only [List.length_cons]; omega : ((((u, v) :: l : rgL).length : Nat) : Int) > 0)]
    simp only
    rw [i64_in (u - m0) (by omega)]
    simp only [cond_true]
    by_cases c : u - m0 < n
    · simp only [if_pos c]
      exact main (u - m0) (by omega) (Int.le_of_lt c) (by omega) (by omega)
    · simp only [if_neg c]
      have n0 : 0 < m2 → 0 < n := fun h => by rcases e4 with e | e <;> omega
      have n1 : m2 = 0 → n = 0 := fun h => by omega
      exact main n (by omega) (Int.le_refl _) n0 n1
theorem late_eq (k : Nat) (c0 c1 c2 : Int) (h : clkB c0 c1 c2 = true) : ∃ v, F113 k c0 c1 c2 = some (c0, c1, v) ∧ F116 k c0 c1 c2 = some (c0, c1, v) := by
  unfold F113 F113_T F116 F116_T
  rw [F143_eq, F109_eq, h]
  refine ⟨_, rfl, ?_⟩
  simp only [Option.bind_some, Bool.not_true, cond_false]
  have : ∀ a b : Int, (if a < b then a else b) = if b < a then b else a := by intro a b; split <;> split <;> omega
  rw [this]
/-- what an end sends again -/
theorem sent_eq (k : Nat) (a0 a1 a2 a3 a4 a5 a6 : Int) (a7 : List (den (.int .u8))) (a8 a9 : Int) (a10 : List (den rng)) (a11 a12 : Int) (a13 : List (den (.int .u8))) (a14 : List (den erl)) (a15 a16 a17 : Bool) (a18 a19 a20 a21 a22 a23 : Int) (h4 : a0 = 4) (hm : mokB a6 a7 a8 a9 a10 = true) (hok : earB a11 a12 a13 a14 = true) (h16 : a16 = true → a8 = (a7.length : Int)) (hopn : Opn a0 (a7.length : Int) a16 a17) (hl : a14.length ≤ 1048576) (hk : a14.length < k) (hk4 : 4 ≤ k) :
    ∃ (s0 s1 s2 s3 s4 : Int) (s5 s6 s7 s8 : Bool) (s9 : List (den rng)) (s10 : List (den (.int .u8))), F117 k a0 a1 a2 a3 a4 a5 a6 a7 a8 a9 a10 a11 a12 a13 a14 a15 a16 a17 a18 a19 a20 a21 a22 a23 = some (s0, s1, s2, s3, s4, s5, s6, s7, s8, s9, s10) ∧ s9.length ≤ 2 ∧ s10.length ≤ 12 ∧
      (0 < a8 → ∃ b : u8L, F114 k a6 a7 a8 a9 a10 12 = some (a6, b) ∧ s10 = b ∧ F115 k a0 a1 a2 a3 a4 a5 a6 a7 a8 a9 a10 a11 a12 a13 a14 a15 a16 a17 a18 a19 a20 a21 a22 a23 a6 = some (s0, s1, s2, s3, s4, s5, s6, s7, s8, s9, [])) ∧
      (¬ 0 < a8 → a16 = true → a17 = false ∧ F79 k a0 a1 a2 a3 a4 a5 a6 a7 a8 a9 a10 a11 a12 a13 a14 a15 a16 a17 a18 a19 a20 a21 a22 a23 = some (s0, s1, s2, s3, s4, s5, s6, s7, s8, s9, s10)) ∧
      (¬ 0 < a8 → a16 = false → F115 k a0 a1 a2 a3 a4 a5 a6 a7 a8 a9 a10 a11 a12 a13 a14 a15 a16 a17 a18 a19 a20 a21 a22 a23 (IntKind.i64.wrap (a6 - 1)) = some (s0, s1, s2, s3, s4, s5, s6, s7, s8, s9, s10)) := by
  subst h4
  obtain ⟨b, g1, g2, g3, g4, g5⟩ := again_eq k a6 a7 a8 a9 a10 hm hk4
  have h2 := (mok_iff.1 hm).2.2.1
  unfold F117 F117_T
  rw [show ((4 : Int) != 4) = false from rfl, cond_false, g2, Option.bind_some]
  by_cases c : 0 < a8
  · rw [decide_eq_true (by have := g4 c; omega : ((b.length : Nat) : Int) > 0), cond_true, segData_eq k 4 a1 a2 a3 a4 a5 a6 a7 a8 a9 a10 a11 a12 a13 a14 a15 a16 a17 a18 a19 a20 a21 a22 a23 a6 b (by omega) hok hl hk hk4, Option.bind_some]
    refine ⟨_, _, _, _, _, _, _, _, _, _, _, rfl, by simp [rgs_len], g3, fun _ => ⟨b, g1, rfl, F115_eq k 4 a1 a2 a3 a4 a5 a6 a7 a8 a9 a10 a11 a12 a13 a14 a15 a16 a17 a18 a19 a20 a21 a22 a23 a6 (by decide) hok hl hk hk4⟩, fun h => absurd c h, fun h => absurd c h⟩
  · have hb := g5 (by omega)
    subst hb
    rw [show decide (((([] : u8L).length : Nat) : Int) > 0) = false from rfl, cond_false]
    cases a16 with
    | true =>
      obtain ⟨ls, li⟩ := last_eq k 4 a1 a2 a3 a4 a5 a6 a7 a8 a9 a10 a11 a12 a13 a14 a15 true a17 a18 a19 a20 a21 a22 a23 (by decide) hok hl hk hk4
      rw [cond_true, li, Option.bind_some]
      refine ⟨_, _, _, _, _, _, _, _, _, _, _, rfl, by simp [rgs_len], by simp, fun h => absurd h c, fun _ _ => ⟨?_, ls⟩, fun _ h => by cases h⟩
      have := h16 rfl
      rcases hopn with h | h | ⟨_, h | h⟩
      · cases h
      · cases h
      · omega
      · exact h.2
    | false =>
      rw [cond_false, F149_eq k 4 a1 a2 a3 a4 a5 a6 a7 a8 a9 a10 a11 a12 a13 a14 a15 false a17 a18 a19 a20 a21 a22 a23 _ hok hl hk hk4, Option.bind_some]
      exact ⟨_, _, _, _, _, _, _, _, _, _, _, rfl, by simp [rgs_len], by simp, fun h => absurd h c, fun _ h => (by cases h), fun _ _ => F115_eq k 4 a1 a2 a3 a4 a5 a6 a7 a8 a9 a10 a11 a12 a13 a14 a15 false a17 a18 a19 a20 a21 a22 a23 _ (by decide) hok hl hk hk4⟩
theorem tick_eq (k : Nat) (a0 a1 a2 a3 a4 a5 a6 : Int) (a7 : List (den (.int .u8))) (a8 a9 : Int) (a10 : List (den rng)) (a11 a12 : Int) (a13 : List (den (.int .u8))) (a14 : List (den erl)) (a15 a16 a17 : Bool) (a18 a19 a20 a21 a22 a23 : Int) (now : Int) (h : shortE 1048576 a7 a10 a13 a14) (hk : 1048576 < k) :
    ∃ (r0 r1 r2 r3 r4 r5 r6 : Int) (r7 : List (den (.int .u8))) (r8 r9 : Int) (r10 : List (den rng)) (r11 r12 : Int) (r13 : List (den (.int .u8))) (r14 : List (den erl)) (r15 r16 r17 : Bool) (r18 r19 r20 r21 r22 r23 : Int) (l : sgL), F37 k a0 a1 a2 a3 a4 a5 a6 a7 a8 a9 a10 a11 a12 a13 a14 a15 a16 a17 a18 a19 a20 a21 a22 a23 now = some (r0, r1, r2, r3, r4, r5, r6, r7, r8, r9, r10, r11, r12, r13, r14, r15, r16, r17, r18, r19, r20, r21, r22, r23, l) ∧
      F38 k a0 a1 a2 a3 a4 a5 a6 a7 a8 a9 a10 a11 a12 a13 a14 a15 a16 a17 a18 a19 a20 a21 a22 a23 now = some (r0, r1, r2, r3, r4, r5, r6, r7, r8, r9, r10, r11, r12, r13, r14, r15, r16, r17, r18, r19, r20, r21, r22, r23, l) ∧
      shortE 1048576 r7 r10 r13 r14 ∧ l.length ≤ 1 ∧ ∀ s ∈ l, shortS 20 s := by
  obtain ⟨h7, h10, h13, h14⟩ := h
  have h : shortE 1048576 a7 a10 a13 a14 := ⟨h7, h10, h13, h14⟩
  obtain ⟨b, hs, hi, hbo⟩ := (F76_is k a0 a1 a2 a3 a4 a5 a6 a7 a8 a9 a10 a11 a12 a13 a14 a15 a16 a17 a18 a19 a20 a21 a22 a23 (by omega) h14 (by omega)).eq (F35_is k a0 a1 a2 a3 a4 a5 a6 a7 a8 a9 a10 a11 a12 a13 a14 a15 a16 a17 a18 a19 a20 a21 a22 a23 (by omega) h13 h14 (by omega))
  unfold F37 F37_T F38 F38_T F84 F84_T F37_j1 F37_j2
  rw [hs, hi]
  simp only [Option.bind_some, F77_eq, F106_eq]
  cases b with
  | false => exact ⟨0, 0, 0, 0, 0, 0, 0, [], 0, 0, [], 0, 0, [], [], false, false, false, 0, 0, 0, 0, 0, 0, [], rfl, rfl, ⟨by simp, by simp, by simp, by simp⟩, by simp, by simp⟩
  | true =>
    cases hn : inB now 0 900000 with
    | false => exact ⟨0, 0, 0, 0, 0, 0, 0, [], 0, 0, [], 0, 0, [], [], false, false, false, 0, 0, 0, 0, 0, 0, [], rfl, rfl, ⟨by simp, by simp, by simp, by simp⟩, by simp, by simp⟩
    | true =>
      obtain ⟨_, _, _, _, _, c5, c7, _, c9, c10, _, c20, c17, c16, _, _, copn, _⟩ := hbo.1 rfl
      rw [inB_iff] at c5 c20
      have cs := F78_eq k a0 a1 a2 a3 a4 a5 a6 a7 a8 a9 a10 a11 a12 a13 a14 a15 a16 a17 a18 a19 a20 a21 a22 a23 h
      have ci := F85_eq k a0 a1 a2 a3 a4 a5 a6 a7 a8 a9 a10 a11 a12 a13 a14 a15 a16 a17 a18 a19 a20 a21 a22 a23 h
      rw [cs, ci]
      simp only [Option.bind_some, Bool.not_true, cond_false, cond_true]
      by_cases e19 : a19 = 0
      · rw [show (a19 == 0) = true from beq_iff_eq.2 e19]
        exact ⟨_, _, _, _, _, _, _, _, _, _, _, _, _, _, _, _, _, _, _, _, _, _, _, _, _, rfl, rfl, h, by simp, by simp⟩
      · rw [show (a19 == 0) = false from beq_eq_false_iff_ne.2 e19]
        simp only [cond_false]
        have hopn : Opn a0 (a7.length : Int) a16 a17 := by
          rcases copn with e | e
          · exact e
          · exact absurd e.1 e19
        cases decide (a19 > now) with
        | true => exact ⟨_, _, _, _, _, _, _, _, _, _, _, _, _, _, _, _, _, _, _, _, _, _, _, _, _, rfl, rfl, h, by simp, by simp⟩
        | false =>
          simp only [cond_false]
          by_cases e20 : a20 = 8
          · rw [show (a20 == 8) = true from beq_iff_eq.2 e20, decide_eq_true (by omega : a20 ≥ 8)]
            exact ⟨_, _, _, _, _, _, _, _, _, _, _, _, _, _, _, _, _, _, _, _, _, _, _, _, _, rfl, rfl, h, by simp, by simp⟩
          · rw [show (a20 == 8) = false from beq_eq_false_iff_ne.2 e20, decide_eq_false (by omega : ¬ a20 ≥ 8)]
            obtain ⟨v, vs, vi⟩ := late_eq k a21 a22 a23 c10
            rw [vs, vi]
            simp only [cond_false, Option.bind_some]
            have first : a0 ≠ 4 → ∃ (s0 s1 s2 s3 s4 : Int) (s5 s6 s7 s8 : Bool) (s9 : List (den rng)) (s10 : List (den (.int .u8))), F95 k a0 a1 a2 a3 a4 a5 a6 a7 a8 a9 a10 a11 a12 a13 a14 a15 a16 a17 a18 (IntKind.i64.wrap (now + v)) (IntKind.i64.wrap (a20 + 1)) a21 a22 v = some (s0, s1, s2, s3, s4, s5, s6, s7, s8, s9, s10) ∧
                F117 k a0 a1 a2 a3 a4 a5 a6 a7 a8 a9 a10 a11 a12 a13 a14 a15 a16 a17 a18 (IntKind.i64.wrap (now + v)) (IntKind.i64.wrap (a20 + 1)) a21 a22 v = some (s0, s1, s2, s3, s4, s5, s6, s7, s8, s9, s10) ∧ s9.length ≤ 2 ∧ s10.length ≤ 2 := by
              intro e0
              obtain ⟨s0, s1, s2, s3, s4, s5, s6, s7, s8, s9, s10, q1, q2, q3, q4⟩ := first_eq k a0 a1 a2 a3 a4 a5 a6 a7 a8 a9 a10 a11 a12 a13 a14 a15 a16 a17 a18 (IntKind.i64.wrap (now + v)) (IntKind.i64.wrap (a20 + 1)) a21 a22 v c5 c9 h14 (by omega) (by omega)
              refine ⟨s0, s1, s2, s3, s4, s5, s6, s7, s8, s9, s10, q1, ?_, q3, q4⟩
              unfold F117 F117_T
              exact (ct (bne_iff_ne.2 e0)).trans ((bs q2).trans rfl)
            have fin1 : ∀ (s0 s1 s2 s3 s4 : Int) (s5 s6 s7 s8 : Bool) (s9 : List (den rng)) (s10 : List (den (.int .u8))), s9.length ≤ 2 → s10.length ≤ 12 → ∀ s ∈ ([(s0, s1, s2, s3, s4, s5, s6, s7, s8, s9, s10)] : sgL), shortS 20 s := by
              intro s0 s1 s2 s3 s4 s5 s6 s7 s8 s9 s10 q3 q4 s hs
              obtain rfl := List.mem_singleton.1 hs
              exact ⟨by show s9.length ≤ 20; omega, by show s10.length ≤ 20; omega⟩
            by_cases e2 : a0 = 2
            · obtain ⟨s0, s1, s2, s3, s4, s5, s6, s7, s8, s9, s10, q1, q2, q3, q4⟩ := first (by omega)
              rw [show (a0 == 2) = true from beq_iff_eq.2 e2, q1, q2]
              exact ⟨_, _, _, _, _, _, _, _, _, _, _, _, _, _, _, _, _, _, _, _, _, _, _, _, _, rfl, rfl, h, by simp, fin1 s0 s1 s2 s3 s4 s5 s6 s7 s8 s9 s10 q3 (by omega)⟩
            · rw [show (a0 == 2) = false from beq_eq_false_iff_ne.2 e2]
              by_cases e3 : a0 = 3
              · obtain ⟨s0, s1, s2, s3, s4, s5, s6, s7, s8, s9, s10, q1, q2, q3, q4⟩ := first (by omega)
                rw [show (a0 == 3) = true from beq_iff_eq.2 e3, q1, q2]
                exact ⟨_, _, _, _, _, _, _, _, _, _, _, _, _, _, _, _, _, _, _, _, _, _, _, _, _, rfl, rfl, h, by simp, fin1 s0 s1 s2 s3 s4 s5 s6 s7 s8 s9 s10 q3 (by omega)⟩
              · have e4 : a0 = 4 := by
                  rcases hopn with e | e | ⟨e, _⟩
                  · exact absurd e e2
                  · exact absurd e e3
                  · exact e
                rw [show (a0 == 3) = false from beq_eq_false_iff_ne.2 e3, show (a0 != 4) = false by rw [e4]; rfl]
                simp only [cond_false]
                obtain ⟨s0, s1, s2, s3, s4, s5, s6, s7, s8, s9, s10, q1, q3, q4, t1, t2, t3⟩ := sent_eq k a0 a1 a2 a3 a4 a5 a6 a7 a8 a9 a10 a11 a12 a13 a14 a15 a16 a17 a18 (IntKind.i64.wrap (now + v)) (IntKind.i64.wrap (a20 + 1)) a21 a22 v e4 c7 c9 (fun e => (c16 e).2.1) hopn h14 (by omega) (by omega)
                rw [q1]
                simp only [Option.bind_some]
                by_cases e8 : 0 < a8
                · obtain ⟨b, u1, u2, u3⟩ := t1 e8
                  subst u2
                  rw [decide_eq_true (by omega : a8 > 0), u1]
                  simp only [cond_true, Option.bind_some]
                  rw [u3]
                  exact ⟨_, _, _, _, _, _, _, _, _, _, _, _, _, _, _, _, _, _, _, _, _, _, _, _, _, rfl, rfl, h, by simp, fin1 s0 s1 s2 s3 s4 s5 s6 s7 s8 s9 s10 q3 q4⟩
                · rw [decide_eq_false (by omega : ¬ a8 > 0)]
                  cases e16 : a16 with
                  | true =>
                    subst e16
                    obtain ⟨u1, u2⟩ := t2 e8 rfl
                    subst u1
                    simp only [cond_true, cond_false, Bool.not_false]
                    rw [u2]
                    exact ⟨_, _, _, _, _, _, _, _, _, _, _, _, _, _, _, _, _, _, _, _, _, _, _, _, _, rfl, rfl, h, by simp, fin1 s0 s1 s2 s3 s4 s5 s6 s7 s8 s9 s10 q3 q4⟩
                  | false =>
                    subst e16
                    simp only [cond_false]
                    rw [t3 e8 rfl]
                    exact ⟨_, _, _, _, _, _, _, _, _, _, _, _, _, _, _, _, _, _, _, _, _, _, _, _, _, rfl, rfl, h, by simp, fin1 s0 s1 s2 s3 s4 s5 s6 s7 s8 s9 s10 q3 q4⟩
theorem sum_one {l : sgL} (h1 : l.length ≤ 1) (h2 : ∀ s ∈ l, shortS 20 s) : sumS wS l ≤ 100 := by
  match l, h1, h2 with
  | [], _, _ => simp [sumS]
  | [s], _, h2 =>
    obtain ⟨h9, h10⟩ := h2 s (by simp)
    simp only [sumS, wS]
    omega
theorem shortS_mono {n m : Nat} (hnm : n ≤ m) {s : den seg} (h : shortS n s) : shortS m s := ⟨Nat.le_trans h.1 hnm, Nat.le_trans h.2 hnm⟩
theorem law_true (a0 a1 a2 a3 a4 a5 a6 : Int) (a7 : List (den (.int .u8))) (a8 a9 : Int) (a10 : List (den rng)) (a11 a12 : Int) (a13 : List (den (.int .u8))) (a14 : List (den erl)) (a15 a16 a17 : Bool) (a18 a19 a20 a21 a22 a23 : Int) (now : Int) (h7 : a7.length ≤ maxLen) (h10 : a10.length ≤ maxLen) (h13 : a13.length ≤ maxLen) (h14 : a14.length ≤ maxLen) : F7 4000000 a0 a1 a2 a3 a4 a5 a6 a7 a8 a9 a10 a11 a12 a13 a14 a15 a16 a17 a18 a19 a20 a21 a22 a23 now = some true := by
  generalize hk : 4000000 = k
  obtain ⟨r, z1, z2⟩ := szEnd_eq k a0 a1 a2 a3 a4 a5 a6 a7 a8 a9 a10 a11 a12 a13 a14 a15 a16 a17 a18 a19 a20 a21 a22 a23 h7 h10 h13 h14
  unfold F7 F7_T
  refine (bs z1).trans ?_
  by_cases hr : r < 0
  · exact (ct (decide_eq_true hr)).trans rfl
  refine (cf (decide_eq_false hr)).trans ?_
  obtain ⟨_, hsum⟩ := z2.resolve_left hr
  have h : shortE 1048576 a7 a10 a13 a14 := ⟨by omega, by omega, by omega, by omega⟩
  have cp := F21_eq k a0 a1 a2 a3 a4 a5 a6 a7 a8 a9 a10 a11 a12 a13 a14 a15 a16 a17 a18 a19 a20 a21 a22 a23 h (by omega)
  obtain ⟨r0, r1, r2, r3, r4, r5, r6, r7, r8, r9, r10, r11, r12, r13, r14, r15, r16, r17, r18, r19, r20, r21, r22, r23, l, es, ei, hr', hl1, hl2⟩ := tick_eq k a0 a1 a2 a3 a4 a5 a6 a7 a8 a9 a10 a11 a12 a13 a14 a15 a16 a17 a18 a19 a20 a21 a22 a23 now h (by omega)
  have hl3 : ∀ s ∈ l, shortS 20 s := fun s hs => shortS_mono (by decide) (hl2 s hs)
  have sl := sum_one hl1 hl3
  have slp := sumS_nonneg wS_pos l
  have eqr := F23_self k r0 r1 r2 r3 r4 r5 r6 r7 r8 r9 r10 r11 r12 r13 r14 r15 r16 r17 r18 r19 r20 r21 r22 r23 hr' (by omega)
  have eqa := F23_self k a0 a1 a2 a3 a4 a5 a6 a7 a8 a9 a10 a11 a12 a13 a14 a15 a16 a17 a18 a19 a20 a21 a22 a23 h (by omega)
  have eql := F24_self k l 20 (by omega) (by omega) hl3 (by omega) (by omega)
  have ma := F25_eq k a0 a1 a2 a3 a4 a5 a6 a7 a8 a9 a10 a11 a12 a13 a14 a15 a16 a17 a18 a19 a20 a21 a22 a23 1 h (by omega) (by omega) (by omega)
  have mr := F25_eq k r0 r1 r2 r3 r4 r5 r6 r7 r8 r9 r10 r11 r12 r13 r14 r15 r16 r17 r18 r19 r20 r21 r22 r23 1 hr' (by omega) (by omega) (by omega)
  have hd := F27_eq k r0 r1 r2 r3 r4 r5 r6 r7 r8 r9 r10 r11 r12 r13 r14 r15 r16 r17 r18 r19 r20 r21 r22 r23 1 hr' (by omega) (by omega) (by omega)
  obtain ⟨xa1, xa2⟩ := x4E_bound 1 a7 a10 a13 a14 h (by omega)
  obtain ⟨xr1, xr2⟩ := x4E_bound 1 r7 r10 r13 r14 hr' (by omega)
  generalize hxr : x4E 1 r7 r10 r13 r14 = xr at *
  have ml' := F26_eq k l xr 20 (by omega) (by omega) hl3 (by omega) (by omega) (by omega)
  have hl' := F28_eq k l xr 20 (by omega) (by omega) hl3 (by omega) (by omega) (by omega)
  have p1 : decide (x4E 1 a7 a10 a13 a14 < 0) = false := decide_eq_false (by omega)
  have p2 : decide (xr < 0) = false := decide_eq_false (by omega)
  have p3 : decide (xr + sumS wS l < 0) = false := decide_eq_false (by omega)
  have p4 : (xr + sumS wS l != xr + sumS wS l) = false := by simp
  refine (bs cp).trans ?_
  refine (bs es).trans ?_
  refine (bs cp).trans ?_
  refine (bs ei).trans ?_
  refine (bs eqr).trans ?_
  refine (cf rfl).trans ?_
  refine (bs eql).trans ?_
  refine (cf rfl).trans ?_
  refine (bs cp).trans ?_
  refine (bs eqa).trans ?_
  refine (cf rfl).trans ?_
  refine (bs ma).trans ?_
  refine (cf p1).trans ?_
  refine (bs eqr).trans ?_
  refine (cf rfl).trans ?_
  refine (bs eql).trans ?_
  refine (cf rfl).trans ?_
  refine (bs mr).trans ?_
  refine (bs ml').trans ?_
  refine (bs hd).trans ?_
  refine (cf p2).trans ?_
  refine (bs hl').trans ?_
  refine (cf p3).trans ?_
  refine (cf p4).trans ?_
  refine (bs cp).trans ?_
  refine (bs ei).trans ?_
  refine (bs eqr).trans ?_
  refine (cf rfl).trans ?_
  refine (bs eql).trans ?_
  refine (cf rfl).trans ?_
  refine (bs hd).trans ?_
  refine (cf p2).trans ?_
  refine (bs hl').trans ?_
  refine (cf p3).trans ?_
  exact (cf p4).trans rfl
theorem pureL (x : den fin) (hx : Wf fin x) (now : Int) (h3 : (Lit.int .i64 now).wf = true) :
    ∃ k, (∀ (x : den fin) (now : Int), Contract Try.prog 7 [.agg ((Rf.enc .ro fin x).map .l), .one (.l (.v (.int .i64 now)))] ⟨F7 k x.1 x.2.1 x.2.2.1 x.2.2.2.1 x.2.2.2.2.1 x.2.2.2.2.2.1 x.2.2.2.2.2.2.1.1 x.2.2.2.2.2.2.1.2.1 x.2.2.2.2.2.2.1.2.2.1 x.2.2.2.2.2.2.1.2.2.2.1 x.2.2.2.2.2.2.1.2.2.2.2 x.2.2.2.2.2.2.2.1.1 x.2.2.2.2.2.2.2.1.2.1 x.2.2.2.2.2.2.2.1.2.2.1 x.2.2.2.2.2.2.2.1.2.2.2 x.2.2.2.2.2.2.2.2.1 x.2.2.2.2.2.2.2.2.2.1 x.2.2.2.2.2.2.2.2.2.2.1 x.2.2.2.2.2.2.2.2.2.2.2.1 x.2.2.2.2.2.2.2.2.2.2.2.2.1 x.2.2.2.2.2.2.2.2.2.2.2.2.2.1 x.2.2.2.2.2.2.2.2.2.2.2.2.2.2.1 x.2.2.2.2.2.2.2.2.2.2.2.2.2.2.2.1 x.2.2.2.2.2.2.2.2.2.2.2.2.2.2.2.2 now, fun r => (.one (.v (.bool r)), [])⟩) ∧ F7 k x.1 x.2.1 x.2.2.1 x.2.2.2.1 x.2.2.2.2.1 x.2.2.2.2.2.1 x.2.2.2.2.2.2.1.1 x.2.2.2.2.2.2.1.2.1 x.2.2.2.2.2.2.1.2.2.1 x.2.2.2.2.2.2.1.2.2.2.1 x.2.2.2.2.2.2.1.2.2.2.2 x.2.2.2.2.2.2.2.1.1 x.2.2.2.2.2.2.2.1.2.1 x.2.2.2.2.2.2.2.1.2.2.1 x.2.2.2.2.2.2.2.1.2.2.2 x.2.2.2.2.2.2.2.2.1 x.2.2.2.2.2.2.2.2.2.1 x.2.2.2.2.2.2.2.2.2.2.1 x.2.2.2.2.2.2.2.2.2.2.2.1 x.2.2.2.2.2.2.2.2.2.2.2.2.1 x.2.2.2.2.2.2.2.2.2.2.2.2.2.1 x.2.2.2.2.2.2.2.2.2.2.2.2.2.2.1 x.2.2.2.2.2.2.2.2.2.2.2.2.2.2.2.1 x.2.2.2.2.2.2.2.2.2.2.2.2.2.2.2.2 now = some true := by
  obtain ⟨x0, x1, x2, x3, x4, x5, ⟨x6, x7, x8, x9, x10⟩, ⟨x11, x12, x13, x14⟩, x15, x16, x17, x18, x19, x20, x21, x22, x23⟩ := x
  obtain ⟨_, _, _, _, _, _, ⟨_, w7, _, _, w10⟩, ⟨_, _, w13, w14⟩, _⟩ := hx
  exact ⟨_, fun x now => F7_con _ x.1 x.2.1 x.2.2.1 x.2.2.2.1 x.2.2.2.2.1 x.2.2.2.2.2.1 x.2.2.2.2.2.2.1.1 x.2.2.2.2.2.2.1.2.1 x.2.2.2.2.2.2.1.2.2.1 x.2.2.2.2.2.2.1.2.2.2.1 x.2.2.2.2.2.2.1.2.2.2.2 x.2.2.2.2.2.2.2.1.1 x.2.2.2.2.2.2.2.1.2.1 x.2.2.2.2.2.2.2.1.2.2.1 x.2.2.2.2.2.2.2.1.2.2.2 x.2.2.2.2.2.2.2.2.1 x.2.2.2.2.2.2.2.2.2.1 x.2.2.2.2.2.2.2.2.2.2.1 x.2.2.2.2.2.2.2.2.2.2.2.1 x.2.2.2.2.2.2.2.2.2.2.2.2.1 x.2.2.2.2.2.2.2.2.2.2.2.2.2.1 x.2.2.2.2.2.2.2.2.2.2.2.2.2.2.1 x.2.2.2.2.2.2.2.2.2.2.2.2.2.2.2.1 x.2.2.2.2.2.2.2.2.2.2.2.2.2.2.2.2 now, law_true x0 x1 x2 x3 x4 x5 x6 x7 x8 x9 x10 x11 x12 x13 x14 x15 x16 x17 x18 x19 x20 x21 x22 x23 now w7.1 w10.1 w13.1 w14.1⟩
end Go.Proofs.Ytkkgcidigiokfaa.Gn
end
