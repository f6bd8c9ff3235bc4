/-
  What the functions that the law reaches answer. (A part of the proofs of this seat.)
-/
import Derived.Test.YtnagpaikjikhaaaGeb
import Derived.Test.YtnagpaikjikhaaaRc

section
set_option linter.unusedVariables false
set_option linter.unusedSimpArgs false
/-
  What rows of ranges and bytes answer: the plain functions, in plain words.
-/
namespace Go.Proofs.Ytnagpaikjikhaaa.Gn
open Go.Rf Go.IntWalk

def inB (a b c : Int) : Bool := decide (b ≤ a) && decide (a ≤ c)
theorem F51_eq (k : Nat) (a b c : Int) : F51 k a b c = some (inB a b c) := by
  unfold F51 inB
  have : decide (a ≥ b) = decide (b ≤ a) := rfl
  rw [this]
  cases decide (b ≤ a) <;> rfl
theorem F45_eq (k : Nat) (a b c : Int) : F45 k a b c = some (inB a b c) := F51_eq k a b c
theorem F54_eq (k : Nat) (a : Int) : F54 k a = some (inB a 1 255) := by unfold F54; rw [F45_eq]; rfl
theorem F55_eq (k : Nat) (a : Int) : F55 k a = some (inB a 0 65535) := by unfold F55; rw [F45_eq]; rfl
abbrev u8L : Type := List (den (.int .u8))
abbrev rgL : Type := List (den rng)
theorem ml : maxLen = 9223372036854775807 := rfl
theorem some_cond {α : Type} (c : Bool) (a b : α) : cond c (some a) (some b) = some (cond c a b) := by cases c <;> rfl
theorem F48_eq (k : Nat) (a : Int) (h : -9223372036854775808 ≤ a ∧ a ≤ 9223372036854775807) : F48 k a = F53 k a := by
  unfold F48 F53
  have hm := Int.tmod_lt_of_pos a (show (0 : Int) < 65536 by omega)
  have hm2 : -65536 < a.tmod 65536 := by
    have := Int.tmod_lt_of_pos (-a) (show (0 : Int) < 65536 by omega)
    rw [Int.neg_tmod] at this
    omega
  rw [i64_in _ (by omega)]
  by_cases hn : a.tmod 65536 < 0
  · rw [decide_eq_true hn, cond_true]
    congr 1
    rw [Int.tmod_eq_of_lt (by omega) (by omega)]
  · rw [decide_eq_false hn, cond_false]
    congr 1
    have : (a.tmod 65536 + 65536).tmod 65536 = a.tmod 65536 := by
      rw [Int.tmod_eq_emod_of_nonneg (by omega), Int.add_emod_right, Int.emod_eq_of_lt (by omega) hm]
    exact this

def seqOf (a : Int) : Int := cond (decide (a.tmod 65536 < 0)) (IntKind.i64.wrap (a.tmod 65536 + 65536)) (a.tmod 65536)
theorem F53_val (k : Nat) (a : Int) : F53 k a = some (seqOf a) := by unfold F53 seqOf; rw [some_cond]
theorem F48_val (k : Nat) (a : Int) (h : -9223372036854775808 ≤ a ∧ a ≤ 9223372036854775807) : F48 k a = some (seqOf a) := by rw [F48_eq k a h, F53_val]
theorem F113_eq (k : Nat) (l : rgL) : F113 k l = some l := by
  simp only [F113, F113_T]
  rw [decide_eq_true (by omega : (0 : Int) ≤ ((l.length : Nat) : Int))]
  simp
theorem F114_eq (k : Nat) (l : u8L) : F114 k l = some l := by
  simp only [F114, F114_T]
  rw [decide_eq_true (by omega : (0 : Int) ≤ ((l.length : Nat) : Int))]
  simp
theorem F87_eq (k : Nat) (l : rgL) (h : l.length ≤ 4194304) : F87 k l = some l := by
  simp only [F87, F87_T, F113_eq, List.nil_append, List.length_nil, Nat.zero_add]
  rw [decide_eq_true (by omega : l.length * 16 ≤ 140737488355328)]
  cases l with
  | nil => rfl
  | cons a r => rw [show ((((a :: r).length : Nat) : Int) == 0) = false by rw [beq_eq_false_iff_ne]; simp only [List.length_cons]; omega]; rfl
theorem F88_eq (k : Nat) (l : u8L) (h : l.length ≤ 4194304) : F88 k l = some l := by
  simp only [F88, F88_T, F114_eq, List.nil_append, List.length_nil, Nat.zero_add]
  rw [decide_eq_true (by omega : l.length * 1 ≤ 140737488355328)]
  cases l with
  | nil => rfl
  | cons a r => rw [show ((((a :: r).length : Nat) : Int) == 0) = false by rw [beq_eq_false_iff_ne]; simp only [List.length_cons]; omega]; rfl
theorem eqD_rng (a b : den rng) : eqD rng a b = decide (a = b) := by
  obtain ⟨a1, a2⟩ := a
  obtain ⟨b1, b2⟩ := b
  simp only [eqD]
  have e : ((a1, a2) = (b1, b2)) ↔ (a1 = b1 ∧ a2 = b2) := Prod.mk.injEq .. ▸ Iff.rfl
  by_cases h1 : a1 = b1 <;> by_cases h2 : a2 = b2 <;> simp [h1, h2, e]
theorem F61_l (k : Nat) (a b : rgL) (hlen : a.length = b.length) (h9 : a.length ≤ 4194304) (k9 : a.length < k) : F61_l0 k a b k 0 = some (decide (a = b)) :=
  eqLoop a b (fun n j => F61_l0 k a b n j) hlen
    (fun n j h h' => by
      simp only [F61_l0, F61_l0_T]
      rw [atI_get a j h, atI_get b j h', eqD_rng, up1 j (by omega)]
      rw [decide_eq_true (by omega : ((j : Nat) : Int) < (a.length : Nat)), decide_eq_true (by omega : ((j : Nat) : Int) < (b.length : Nat)), decide_eq_true (by omega : (0 : Int) ≤ (j : Nat))]
      by_cases hc : a[j] = b[j]
      · rw [decide_eq_true hc, if_pos hc]; rfl
      · rw [decide_eq_false hc, if_neg hc]; rfl)
    (fun n => by
      simp only [F61_l0, F61_l0_T]
      rw [decide_eq_false (by omega : ¬ ((a.length : Nat) : Int) < (a.length : Nat))]; rfl) k 0 (Nat.zero_le _) (by omega)
theorem F61_eq (k : Nat) (a b : rgL) (h9 : a.length ≤ 4194304) (k9 : a.length < k) : F61 k a b = some (decide (a = b)) := by
  simp only [F61, F61_T]
  by_cases hlen : a.length = b.length
  · rw [F61_l k a b hlen h9 k9, hlen]; simp
  · rw [show (((a.length : Nat) : Int) != ((b.length : Nat) : Int)) = true by rw [bne_iff_ne]; omega, cond_true, decide_eq_false (fun h => hlen (by rw [h]))]
def gR (x : Int) (a : den rng) : den rng := (x, x + 1)
def gB (x : Int) (a : den (.int .u8)) : den (.int .u8) := IntKind.u8.wrap x
theorem bs {α β : Type} {o : Option α} {f : α → Option β} {x : α} (h : o = some x) : o.bind f = f x := by rw [h]; rfl
theorem cf {α : Type} {c : Bool} {a b : α} (h : c = false) : cond c a b = b := by rw [h]; rfl
theorem ct {α : Type} {c : Bool} {a b : α} (h : c = true) : cond c a b = a := by rw [h]; rfl
abbrev Seg : Type := (Int × Int × Int × Int × Int × Bool × Bool × Bool × Bool × List (den rng) × List (den (.int .u8)))

def rgB (a : den rng) : Bool := inB a.1 0 65535 && inB a.2 0 65535
def okT (a3 a4 : Int) (a5 a6 a7 a8 : Bool) (a9 : rgL) (a10 : u8L) : Bool :=
  cond (!a6) (cond (a3 != 0) false (cond (a4 != 0) false (cond (decide (((a9.length : Nat) : Int) > 0)) false (cond (!a8) true (cond (!a5) (cond (!a7) (((a10.length : Nat) : Int) == 0) false) false)))))
    (cond (!a8) true (cond (!a5) (cond (!a7) (((a10.length : Nat) : Int) == 0) false) false))
def okS (a0 a1 a2 a3 a4 : Int) (a5 a6 a7 a8 : Bool) (a9 : List (den rng)) (a10 : List (den (.int .u8))) : Bool :=
  inB a0 1 255 && inB a1 1 255 && inB a2 0 65535 && inB a3 0 65535 && inB a4 0 255 && !(decide (((a9.length : Nat) : Int) > 2)) && !(decide (((a10.length : Nat) : Int) > 12)) && (a9.all rgB && okT a3 a4 a5 a6 a7 a8 a9 a10)
theorem F50_l (k : Nat) (a0 a1 a2 a3 a4 : Int) (a5 a6 a7 a8 : Bool) (a9 : List (den rng)) (a10 : List (den (.int .u8))) (h9 : a9.length ≤ 1048576) (k9 : a9.length < k) : F50_l0 k a0 a1 a2 a3 a4 a5 a6 a7 a8 a9 a10 k 0 = some (a9.all rgB && okT a3 a4 a5 a6 a7 a8 a9 a10) := by
  have := scanLoop a9 (fun n (_ : Unit) j => F50_l0 k a0 a1 a2 a3 a4 a5 a6 a7 a8 a9 a10 n j) (fun _ _ a => cond (rgB a) (.inl ()) (.inr false)) (fun _ => okT a3 a4 a5 a6 a7 a8 a9 a10)
    (fun n s j h => by
      simp only [F50_l0, F50_l0_T]
      rw [atI_get a9 j h, F51_eq, F51_eq, up1 j (by omega)]
      simp only [Option.bind_some]
      rw [decide_eq_true (by omega : ((j : Nat) : Int) < (a9.length : Nat)), decide_eq_true (by omega : (0 : Int) ≤ (j : Nat))]
      unfold rgB
      cases inB a9[j].1 0 65535 <;> cases inB a9[j].2 0 65535 <;> rfl)
    (fun n s => by
      simp only [F50_l0, F50_l0_T]
      rw [decide_eq_false (by omega : ¬ ((a9.length : Nat) : Int) < (a9.length : Nat))]
      simp only [cond_false, some_cond, okT]) k () 0 (Nat.zero_le _) (by omega)
  rw [scan_all, List.drop_zero] at this
  exact this
theorem F50_eq (k : Nat) (a0 a1 a2 a3 a4 : Int) (a5 a6 a7 a8 : Bool) (a9 : List (den rng)) (a10 : List (den (.int .u8))) (h9 : a9.length ≤ 1048576) (k9 : a9.length < k) : F50 k a0 a1 a2 a3 a4 a5 a6 a7 a8 a9 a10 = some (okS a0 a1 a2 a3 a4 a5 a6 a7 a8 a9 a10) := by
  simp only [F50, F50_T]
  rw [F50_l k a0 a1 a2 a3 a4 a5 a6 a7 a8 a9 a10 h9 k9]
  simp only [F51_eq, Option.bind_some, okS]
  cases inB a0 1 255 <;> try rfl
  cases inB a1 1 255 <;> try rfl
  cases inB a2 0 65535 <;> try rfl
  cases inB a3 0 65535 <;> try rfl
  cases inB a4 0 255 <;> try rfl
  cases decide (((a9.length : Nat) : Int) > 2) <;> try rfl
  cases decide (((a10.length : Nat) : Int) > 12) <;> rfl
theorem F57_eq (k : Nat) (a b : Int) : F57 k a b = some (!(rgB (a, b))) := by
  unfold F57 rgB
  rw [F55_eq, F55_eq]
  simp only [Option.bind_some]
  cases inB a 0 65535 <;> cases inB b 0 65535 <;> rfl
theorem F56_eq (k : Nat) (l : rgL) (h9 : l.length ≤ 1048576) (k9 : l.length < k) : F56 k l = some (!(l.all rgB)) := by
  have := scanLoop l (fun n (_ : Unit) j => F90_l0 k l n j) (fun _ j a => cond (rgB a) (.inl ()) (.inr (j : Int))) (fun _ => -1)
    (fun n s j h => by
      simp only [F90_l0, F90_l0_T]
      rw [atI_get l j h, F57_eq, up1 j (by omega)]
      simp only [Option.bind_some]
      rw [decide_eq_true (by omega : ((j : Nat) : Int) < (l.length : Nat)), decide_eq_true (by omega : (0 : Int) ≤ (j : Nat))]
      show cond true (cond true (cond true (cond (!rgB l[j]) _ _) _) _) _ = _
      cases rgB l[j] <;> rfl)
    (fun n s => by
      simp only [F90_l0, F90_l0_T]
      rw [decide_eq_false (by omega : ¬ ((l.length : Nat) : Int) < (l.length : Nat))]; rfl) k () 0 (Nat.zero_le _) (by omega)
  rw [List.drop_zero] at this
  have hs : ∀ (r : rgL) (j : Nat), (decide (scan (fun (_ : Unit) j a => cond (rgB a) (.inl ()) (.inr (j : Int))) (fun _ => (-1 : Int)) () j r ≥ 0)) = !(r.all rgB) := by
    intro r
    induction r with
    | nil => intro j; rfl
    | cons a r ih =>
      intro j
      rw [scan, List.all_cons]
      cases rgB a with
      | true => simpa using ih (j + 1)
      | false => simp
  simp only [F56, F90, F90_T]
  have this2 : F90_l0 k l k 0 = _ := this
  rw [this2, Option.bind_some, hs l 0]
theorem F14_eq (k : Nat) (a0 a1 a2 a3 a4 : Int) (a5 a6 a7 a8 : Bool) (a9 : List (den rng)) (a10 : List (den (.int .u8))) (h9 : a9.length ≤ 1048576) (k9 : a9.length < k) : F14 k a0 a1 a2 a3 a4 a5 a6 a7 a8 a9 a10 = some (okS a0 a1 a2 a3 a4 a5 a6 a7 a8 a9 a10) := by
  simp only [F14, F14_T]
  rw [F56_eq k a9 h9 k9]
  simp only [F54_eq, F55_eq, F45_eq, Option.bind_some, some_cond, okS]
  cases inB a0 1 255 <;> try rfl
  cases inB a1 1 255 <;> try rfl
  cases inB a2 0 65535 <;> try rfl
  cases inB a3 0 65535 <;> try rfl
  cases inB a4 0 255 <;> try rfl
  cases decide (((a9.length : Nat) : Int) > 2) <;> try rfl
  cases decide (((a10.length : Nat) : Int) > 12) <;> try rfl
  cases a9.all rgB <;> rfl

def longS (a5 a7 : Bool) (a10 : u8L) : Int := (a10.length : Int) + (if a5 then 1 else 0) + (if a7 then 1 else 0)
theorem F64_eq (k : Nat) (a0 a1 a2 a3 a4 : Int) (a5 a6 a7 a8 : Bool) (a9 : List (den rng)) (a10 : List (den (.int .u8))) (h : a10.length ≤ 1048576) : F64 k a0 a1 a2 a3 a4 a5 a6 a7 a8 a9 a10 = some (longS a5 a7 a10) := by
  simp only [F64, F64_T, longS]
  rw [i64_in ((a10.length : Nat) + 1 : Int) (by omega), i64_in _ (by omega)]
  cases a5 <;> cases a7 <;> simp
theorem F16_eq (k : Nat) (a0 a1 a2 a3 a4 : Int) (a5 a6 a7 a8 : Bool) (a9 : List (den rng)) (a10 : List (den (.int .u8))) (h : a10.length ≤ 1048576) : F16 k a0 a1 a2 a3 a4 a5 a6 a7 a8 a9 a10 = some (longS a5 a7 a10) := by
  simp only [F16, F16_T, longS, F59, some_cond, Option.bind_some]
  have e : ∀ c : Int, 0 ≤ c → c ≤ 10 → IntKind.i64.wrap ((a10.length : Int) + c) = (a10.length : Int) + c := fun c h1 h2 => i64_in _ (by omega)
  have e2 : ∀ c d : Int, 0 ≤ c → c ≤ 10 → 0 ≤ d → d ≤ 10 → IntKind.i64.wrap ((a10.length : Int) + c + d) = (a10.length : Int) + c + d := fun c d h1 h2 h3 h4 => i64_in _ (by omega)
  cases a5 <;> cases a7 <;> simp only [cond_true, cond_false, e 0 (by omega) (by omega), e 1 (by omega) (by omega), e2 0 0 (by omega) (by omega) (by omega) (by omega), e2 0 1 (by omega) (by omega) (by omega) (by omega), e2 1 0 (by omega) (by omega) (by omega) (by omega), e2 1 1 (by omega) (by omega) (by omega) (by omega)] <;> rfl
theorem F46_eq (k : Nat) (a0 a1 a2 a3 a4 : Int) (a5 a6 a7 a8 : Bool) (a9 : List (den rng)) (a10 : List (den (.int .u8))) (h9 : a9.length ≤ 4194304) (h10 : a10.length ≤ 4194304) : F46 k a0 a1 a2 a3 a4 a5 a6 a7 a8 a9 a10 = some (a0, a1, a2, a3, a4, a5, a6, a7, a8, a9, a10) := by
  simp only [F46, F46_T]
  rw [F87_eq k a9 h9, F88_eq k a10 h10]; rfl
theorem F52_eq (k : Nat) (a0 a1 a2 a3 a4 : Int) (a5 a6 a7 a8 : Bool) (a9 : List (den rng)) (a10 : List (den (.int .u8))) (h9 : a9.length ≤ 4194304) (h10 : a10.length ≤ 4194304) : F52 k a0 a1 a2 a3 a4 a5 a6 a7 a8 a9 a10 = some (a0, a1, a2, a3, a4, a5, a6, a7, a8, a9, a10) := by
  simp only [F52, F52_T, List.nil_append, List.length_nil, Nat.zero_add]
  rw [decide_eq_true (by omega : a9.length * 16 ≤ 140737488355328), decide_eq_true (by omega : a10.length * 1 ≤ 140737488355328)]; rfl
theorem F92_eq (k : Nat) (a : Int) (h : 0 ≤ a ∧ a ≤ 16777216) : F92 k a = some [] := by
  simp only [F92, F92_T]
  rw [decide_eq_false (by omega : ¬ a < 0), i64_in _ (by omega)]
  by_cases h0 : a = 0
  · subst h0; rfl
  · rw [decide_eq_true (by omega : a - 0 > 0), decide_eq_true (by omega : (a - 0) * (1 : Nat) ≤ 140737488355328)]
    rw [decide_eq_true (by omega : (0 : Int) ≤ (((List.replicate ((a - 0).toNat) (dflt (.int .u8))).length : Nat) : Int))]
    rfl
theorem F62_eq (n : Nat) (x y : u8L) (hx : x.length ≤ 1048576) (hy : y.length ≤ 1048576) : F62 (n + 4) [x, y] = some (x ++ y) := by
  have hl2 : F62_l2 (n + 4) [x, y] (n + 4) 0 [] = some (x ++ y) := by
    have e0 : atI (t := .sl (.int .u8)) [x, y] 0 = x := rfl
    have e1 : atI (t := .sl (.int .u8)) [x, y] 1 = y := rfl
    have w1 : IntKind.i64.wrap (0 + 1) = 1 := rfl
    have w2 : IntKind.i64.wrap (1 + 1) = 2 := rfl
    simp only [F62_l2, F62_l2_T, w1, w2, e0, e1, List.nil_append, List.length_nil, Nat.zero_add]
    rw [decide_eq_true (by omega : x.length * 1 ≤ 140737488355328), decide_eq_true (by omega : (x.length + y.length) * 1 ≤ 140737488355328)]
    rfl
  have hl0 : F62_l0 (n + 4) [x, y] (n + 4) 0 0 = some (x ++ y) := by
    have e0 : atI (t := .sl (.int .u8)) [x, y] 0 = x := rfl
    have e1 : atI (t := .sl (.int .u8)) [x, y] 1 = y := rfl
    have w1 : IntKind.i64.wrap (0 + 1) = 1 := rfl
    have w2 : IntKind.i64.wrap (1 + 1) = 2 := rfl
    have w3 : IntKind.i64.wrap (0 + (x.length : Int)) = (x.length : Int) := by rw [i64_in _ (by omega)]; omega
    have w4 : IntKind.i64.wrap ((x.length : Int) + (y.length : Int)) = (x.length : Int) + (y.length : Int) := i64_in _ (by omega)
    simp only [F62_l0, F62_l0_T, w1, w2, e0, e1, w3, w4]
    rw [decide_eq_false (by omega : ¬ ((x.length : Nat) : Int) < 0), decide_eq_false (by omega : ¬ ((x.length : Nat) : Int) + ((y.length : Nat) : Int) < 0),
      F92_eq (n + 4) ((x.length : Int) + (y.length : Int)) (by omega), Option.bind_some, hl2]
    rfl
  simp only [F62, F62_T]
  exact hl0

theorem F63_l (k : Nat) (a0 a1 a2 a3 a4 : Int) (a5 a6 a7 a8 : Bool) (a9 : List (den rng)) (a10 : List (den (.int .u8))) (b0 b1 b2 b3 b4 : Int) (b5 b6 b7 b8 : Bool) (b9 : List (den rng)) (b10 : List (den (.int .u8))) (hlen : a9.length = b9.length) (h9 : a9.length ≤ 4194304) (k9 : a9.length < k) : F63_l0 k a0 a1 a2 a3 a4 a5 a6 a7 a8 a9 a10 b0 b1 b2 b3 b4 b5 b6 b7 b8 b9 b10 k 0 = some (decide (a9 = b9)) :=
  eqLoop a9 b9 (fun n j => F63_l0 k a0 a1 a2 a3 a4 a5 a6 a7 a8 a9 a10 b0 b1 b2 b3 b4 b5 b6 b7 b8 b9 b10 n j) hlen
    (fun n j h h' => by
      simp only [F63_l0, F63_l0_T]
      rw [atI_get a9 j h, atI_get b9 j h', eqD_rng, up1 j (by omega)]
      rw [decide_eq_true (by omega : ((j : Nat) : Int) < (a9.length : Nat)), decide_eq_true (by omega : ((j : Nat) : Int) < (b9.length : Nat)), decide_eq_true (by omega : (0 : Int) ≤ (j : Nat))]
      by_cases hc : a9[j] = b9[j]
      · rw [decide_eq_true hc, if_pos hc]; rfl
      · rw [decide_eq_false hc, if_neg hc]; rfl)
    (fun n => by
      simp only [F63_l0, F63_l0_T]
      rw [decide_eq_false (by omega : ¬ ((a9.length : Nat) : Int) < (a9.length : Nat))]; rfl) k 0 (Nat.zero_le _) (by omega)
theorem F63_eq (k : Nat) (a0 a1 a2 a3 a4 : Int) (a5 a6 a7 a8 : Bool) (a9 : List (den rng)) (a10 : List (den (.int .u8))) (b0 b1 b2 b3 b4 : Int) (b5 b6 b7 b8 : Bool) (b9 : List (den rng)) (b10 : List (den (.int .u8))) (h9 : a9.length ≤ 4194304) (k9 : a9.length < k) : F63 k a0 a1 a2 a3 a4 a5 a6 a7 a8 a9 a10 b0 b1 b2 b3 b4 b5 b6 b7 b8 b9 b10 =
    cond (a0 != b0) (some false) (cond (a1 != b1) (some false) (cond (!(a6 == b6)) (some false) (cond (a3 != b3) (some false) (cond (a4 != b4) (some false) (some (decide (a9 = b9))))))) := by
  simp only [F63, F63_T]
  by_cases hlen : a9.length = b9.length
  · rw [F63_l k a0 a1 a2 a3 a4 a5 a6 a7 a8 a9 a10 b0 b1 b2 b3 b4 b5 b6 b7 b8 b9 b10 hlen h9 k9, hlen]; simp
  · rw [show (((a9.length : Nat) : Int) != ((b9.length : Nat) : Int)) = true by rw [bne_iff_ne]; omega, cond_true, decide_eq_false (fun h => hlen (by rw [h]))]
theorem join_eq (n : Nat) (a0 a1 a2 a3 a4 : Int) (a5 a6 a7 a8 : Bool) (a9 : List (den rng)) (a10 : List (den (.int .u8))) (b0 b1 b2 b3 b4 : Int) (b5 b6 b7 b8 : Bool) (b9 : List (den rng)) (b10 : List (den (.int .u8))) (ha : -9223372036854775808 ≤ a2 ∧ a2 ≤ 9223372036854775807) (h9 : a9.length ≤ 1048576) (h10 : a10.length ≤ 1048576) (g9 : b9.length ≤ 1048576) (g10 : b10.length ≤ 1048576) (k9 : a9.length < n + 4) (l9 : b9.length < n + 4) :
    F20 (n + 4) a0 a1 a2 a3 a4 a5 a6 a7 a8 a9 a10 b0 b1 b2 b3 b4 b5 b6 b7 b8 b9 b10 = F21 (n + 4) a0 a1 a2 a3 a4 a5 a6 a7 a8 a9 a10 b0 b1 b2 b3 b4 b5 b6 b7 b8 b9 b10 := by
  have hseq : okS a0 a1 a2 a3 a4 a5 a6 a7 a8 a9 a10 = true → F48 (n + 4) (IntKind.i64.wrap (a2 + longS a5 a7 a10)) = some (seqOf (IntKind.i64.wrap (a2 + longS a5 a7 a10))) := by
    intro h
    refine F48_val _ _ ?_
    have h2 : inB a2 0 65535 = true := by
      unfold okS at h
      simp only [Bool.and_eq_true] at h
      exact h.1.1.1.1.1.2
    unfold inB at h2
    simp only [Bool.and_eq_true, decide_eq_true_eq] at h2
    have : 0 ≤ longS a5 a7 a10 ∧ longS a5 a7 a10 ≤ 1048578 := by unfold longS; split <;> split <;> omega
    rw [i64_in _ (by omega)]
    omega
  simp only [F21, F21_T, F20, F20_T, F50_eq (n + 4) a0 a1 a2 a3 a4 a5 a6 a7 a8 a9 a10 h9 k9, F50_eq (n + 4) b0 b1 b2 b3 b4 b5 b6 b7 b8 b9 b10 g9 l9, F14_eq (n + 4) a0 a1 a2 a3 a4 a5 a6 a7 a8 a9 a10 h9 k9, F14_eq (n + 4) b0 b1 b2 b3 b4 b5 b6 b7 b8 b9 b10 g9 l9,
    F63_eq (n + 4) a0 a1 a2 a3 a4 a5 a6 a7 a8 a9 a10 b0 b1 b2 b3 b4 b5 b6 b7 b8 b9 b10 (by omega) k9, F61_eq (n + 4) a9 b9 (by omega) k9, F64_eq (n + 4) a0 a1 a2 a3 a4 a5 a6 a7 a8 a9 a10 h10, F16_eq (n + 4) a0 a1 a2 a3 a4 a5 a6 a7 a8 a9 a10 h10, F53_val, Option.bind_some, bind_cond]
  cases hok : okS a0 a1 a2 a3 a4 a5 a6 a7 a8 a9 a10 with
  | false => rfl
  | true =>
    rw [hseq hok]
    have e1 := F46_eq (n + 4) a0 a1 a2 a3 a4 a5 a6 a7 a8 a9 a10 (by omega) (by omega)
    have e2 := F62_eq n a10 b10 h10 g10
    have e3 := F52_eq (n + 4) a0 a1 a2 a3 a4 a5 a6 a7 a8 a9 a10 (by omega) (by omega)
    have e4 := F46_eq (n + 4) a0 a1 a2 a3 a4 a5 a6 b7 a8 a9 (a10 ++ b10) (by omega) (by simp; omega)
    simp only [e1, e2, e3, e4, Option.bind_some]
    rw [decide_eq_true (by omega : (a10.length + b10.length) * 1 ≤ 140737488355328)]
    rfl
/-! ### rows of segments -/
abbrev sgL : Type := List (den seg)
/-- the weight of a segment: how many marks it bears -/
def wS (s : den seg) : Int := 9 + 2 * (s.2.2.2.2.2.2.2.2.2.1.length : Int) + (s.2.2.2.2.2.2.2.2.2.2.length : Int)
theorem wS_pos (s : den seg) : 0 ≤ wS s := by unfold wS; omega
/-- a segment marked -/
def gS (y : Int) (s : den seg) : den seg :=
  (y, y + 1, y + 2, y + 3, y + 4, (y + 5).tmod 3 == 0, (y + 6).tmod 3 == 0, (y + 7).tmod 3 == 0, (y + 8).tmod 3 == 0, marks gR (fun _ => 2) (y + 9) s.2.2.2.2.2.2.2.2.2.1,
    marks gB (fun _ => 1) (y + 9 + 2 * (s.2.2.2.2.2.2.2.2.2.1.length : Int)) s.2.2.2.2.2.2.2.2.2.2)
theorem wS_gS (y : Int) (s : den seg) : wS (gS y s) = wS s := by simp [wS, gS, marks_len]
/-- its rows are no longer than this -/
def shortS (n : Nat) (s : den seg) : Prop := s.2.2.2.2.2.2.2.2.2.1.length ≤ n ∧ s.2.2.2.2.2.2.2.2.2.2.length ≤ n
def bears (N : Nat) (y : Int) (s : den seg) : Prop := ∃ b : den seg, s = gS y b ∧ shortS N b
/-! ### joined rows -/
abbrev T12 : Type := Int × Int × Int × Int × Int × Bool × Bool × Bool × Bool × List (den rng) × List (den (.int .u8)) × Bool
def joinV (a0 a1 a2 a3 a4 : Int) (a5 a6 a7 a8 : Bool) (a9 : List (den rng)) (a10 : List (den (.int .u8))) (b0 b1 b2 b3 b4 : Int) (b5 b6 b7 b8 : Bool) (b9 : List (den rng)) (b10 : List (den (.int .u8))) : Int × Int × Int × Int × Int × Bool × Bool × Bool × Bool × List (den rng) × List (den (.int .u8)) × Bool :=
  cond (!(okS a0 a1 a2 a3 a4 a5 a6 a7 a8 a9 a10)) (0, 0, 0, 0, 0, false, false, false, false, [], [], false) (cond (!(okS b0 b1 b2 b3 b4 b5 b6 b7 b8 b9 b10)) (0, 0, 0, 0, 0, false, false, false, false, [], [], false)
  (cond (a0 != b0) (0, 0, 0, 0, 0, false, false, false, false, [], [], false) (cond (a1 != b1) (0, 0, 0, 0, 0, false, false, false, false, [], [], false)
  (cond (!(a6 == b6)) (0, 0, 0, 0, 0, false, false, false, false, [], [], false) (cond (a3 != b3) (0, 0, 0, 0, 0, false, false, false, false, [], [], false)
  (cond (a4 != b4) (0, 0, 0, 0, 0, false, false, false, false, [], [], false) (cond (!(decide (a9 = b9))) (0, 0, 0, 0, 0, false, false, false, false, [], [], false)
  (cond a8 (0, 0, 0, 0, 0, false, false, false, false, [], [], false) (cond b8 (0, 0, 0, 0, 0, false, false, false, false, [], [], false)
  (cond (((a10.length : Nat) : Int) == 0) (0, 0, 0, 0, 0, false, false, false, false, [], [], false) (cond (((b10.length : Nat) : Int) == 0) (0, 0, 0, 0, 0, false, false, false, false, [], [], false)
  (cond a7 (0, 0, 0, 0, 0, false, false, false, false, [], [], false) (cond b5 (0, 0, 0, 0, 0, false, false, false, false, [], [], false)
  (cond (b2 != seqOf (IntKind.i64.wrap (a2 + longS a5 a7 a10))) (0, 0, 0, 0, 0, false, false, false, false, [], [], false)
  (cond (decide ((IntKind.i64.wrap (((a10.length : Nat) : Int) + ((b10.length : Nat) : Int))) > 12)) (0, 0, 0, 0, 0, false, false, false, false, [], [], false)
  (a0, a1, a2, a3, a4, a5, a6, b7, a8, a9, a10 ++ b10, true))))))))))))))))
theorem join_val (k : Nat) (a0 a1 a2 a3 a4 : Int) (a5 a6 a7 a8 : Bool) (a9 : List (den rng)) (a10 : List (den (.int .u8))) (b0 b1 b2 b3 b4 : Int) (b5 b6 b7 b8 : Bool) (b9 : List (den rng)) (b10 : List (den (.int .u8))) (h9 : a9.length ≤ 1048576) (h10 : a10.length ≤ 1048576) (g9 : b9.length ≤ 1048576) (g10 : b10.length ≤ 1048576) (k9 : a9.length < k) (l9 : b9.length < k) :
    F21 k a0 a1 a2 a3 a4 a5 a6 a7 a8 a9 a10 b0 b1 b2 b3 b4 b5 b6 b7 b8 b9 b10 = some (joinV a0 a1 a2 a3 a4 a5 a6 a7 a8 a9 a10 b0 b1 b2 b3 b4 b5 b6 b7 b8 b9 b10) := by
  simp only [F21, F21_T, F50_eq k a0 a1 a2 a3 a4 a5 a6 a7 a8 a9 a10 h9 k9, F50_eq k b0 b1 b2 b3 b4 b5 b6 b7 b8 b9 b10 g9 l9, F63_eq k a0 a1 a2 a3 a4 a5 a6 a7 a8 a9 a10 b0 b1 b2 b3 b4 b5 b6 b7 b8 b9 b10 (by omega) k9,
    F64_eq k a0 a1 a2 a3 a4 a5 a6 a7 a8 a9 a10 h10, F53_val, F52_eq k a0 a1 a2 a3 a4 a5 a6 a7 a8 a9 a10 (by omega) (by omega), Option.bind_some, bind_cond]
  rw [decide_eq_true (by omega : (a10.length + b10.length) * 1 ≤ 140737488355328)]
  simp only [cond_true, cond_false, Bool.not_false, Bool.not_true, some_cond]
  rfl
/-- two segments joined, if they can be -/
def jn (a b : den seg) : Option (den seg) :=
  cond (joinV a.1 a.2.1 a.2.2.1 a.2.2.2.1 a.2.2.2.2.1 a.2.2.2.2.2.1 a.2.2.2.2.2.2.1 a.2.2.2.2.2.2.2.1 a.2.2.2.2.2.2.2.2.1 a.2.2.2.2.2.2.2.2.2.1 a.2.2.2.2.2.2.2.2.2.2 b.1 b.2.1 b.2.2.1 b.2.2.2.1 b.2.2.2.2.1 b.2.2.2.2.2.1 b.2.2.2.2.2.2.1 b.2.2.2.2.2.2.2.1 b.2.2.2.2.2.2.2.2.1 b.2.2.2.2.2.2.2.2.2.1 b.2.2.2.2.2.2.2.2.2.2).2.2.2.2.2.2.2.2.2.2.2
    (some (a.1, a.2.1, a.2.2.1, a.2.2.2.1, a.2.2.2.2.1, a.2.2.2.2.2.1, a.2.2.2.2.2.2.1, b.2.2.2.2.2.2.2.1, a.2.2.2.2.2.2.2.2.1, a.2.2.2.2.2.2.2.2.2.1, a.2.2.2.2.2.2.2.2.2.2 ++ b.2.2.2.2.2.2.2.2.2.2)) none
/-- is it a segment -/
def okD (s : den seg) : Bool := okS s.1 s.2.1 s.2.2.1 s.2.2.2.1 s.2.2.2.2.1 s.2.2.2.2.2.1 s.2.2.2.2.2.2.1 s.2.2.2.2.2.2.2.1 s.2.2.2.2.2.2.2.2.1 s.2.2.2.2.2.2.2.2.2.1 s.2.2.2.2.2.2.2.2.2.2
theorem cond_z {α : Type} {c : Bool} {z x : α} {f : α → Bool} (hz : f z = false) (h : f (cond c z x) = true) : c = false ∧ f x = true := by
  cases c with
  | true => rw [cond_true, hz] at h; cases h
  | false => exact ⟨rfl, h⟩
/-- what is known of two that are joined -/
theorem joinV_true {a0 a1 a2 a3 a4 : Int} {a5 a6 a7 a8 : Bool} {a9 : List (den rng)} {a10 : List (den (.int .u8))} {b0 b1 b2 b3 b4 : Int} {b5 b6 b7 b8 : Bool} {b9 : List (den rng)} {b10 : List (den (.int .u8))} (h : (joinV a0 a1 a2 a3 a4 a5 a6 a7 a8 a9 a10 b0 b1 b2 b3 b4 b5 b6 b7 b8 b9 b10).2.2.2.2.2.2.2.2.2.2.2 = true) :
    joinV a0 a1 a2 a3 a4 a5 a6 a7 a8 a9 a10 b0 b1 b2 b3 b4 b5 b6 b7 b8 b9 b10 = (a0, a1, a2, a3, a4, a5, a6, b7, a8, a9, a10 ++ b10, true) ∧ okS a0 a1 a2 a3 a4 a5 a6 a7 a8 a9 a10 = true ∧ okS b0 b1 b2 b3 b4 b5 b6 b7 b8 b9 b10 = true ∧ (a0 = b0 ∧ a1 = b1 ∧ a6 = b6 ∧ a3 = b3 ∧ a4 = b4 ∧ a9 = b9) ∧ (a8 = false ∧ b8 = false ∧ a7 = false ∧ b5 = false) ∧
      (a10.length ≠ 0 ∧ b10.length ≠ 0) ∧ b2 = seqOf (IntKind.i64.wrap (a2 + longS a5 a7 a10)) ∧ IntKind.i64.wrap (((a10.length : Nat) : Int) + ((b10.length : Nat) : Int)) ≤ 12 := by
  unfold joinV at h
  obtain ⟨c1, h⟩ := cond_z (f := fun r : T12 => r.2.2.2.2.2.2.2.2.2.2.2) rfl h
  obtain ⟨c2, h⟩ := cond_z (f := fun r : T12 => r.2.2.2.2.2.2.2.2.2.2.2) rfl h
  obtain ⟨c3, h⟩ := cond_z (f := fun r : T12 => r.2.2.2.2.2.2.2.2.2.2.2) rfl h
  obtain ⟨c4, h⟩ := cond_z (f := fun r : T12 => r.2.2.2.2.2.2.2.2.2.2.2) rfl h
  obtain ⟨c5, h⟩ := cond_z (f := fun r : T12 => r.2.2.2.2.2.2.2.2.2.2.2) rfl h
  obtain ⟨c6, h⟩ := cond_z (f := fun r : T12 => r.2.2.2.2.2.2.2.2.2.2.2) rfl h
  obtain ⟨c7, h⟩ := cond_z (f := fun r : T12 => r.2.2.2.2.2.2.2.2.2.2.2) rfl h
  obtain ⟨c8, h⟩ := cond_z (f := fun r : T12 => r.2.2.2.2.2.2.2.2.2.2.2) rfl h
  obtain ⟨c9, h⟩ := cond_z (f := fun r : T12 => r.2.2.2.2.2.2.2.2.2.2.2) rfl h
  obtain ⟨c10, h⟩ := cond_z (f := fun r : T12 => r.2.2.2.2.2.2.2.2.2.2.2) rfl h
  obtain ⟨c11, h⟩ := cond_z (f := fun r : T12 => r.2.2.2.2.2.2.2.2.2.2.2) rfl h
  obtain ⟨c12, h⟩ := cond_z (f := fun r : T12 => r.2.2.2.2.2.2.2.2.2.2.2) rfl h
  obtain ⟨c13, h⟩ := cond_z (f := fun r : T12 => r.2.2.2.2.2.2.2.2.2.2.2) rfl h
  obtain ⟨c14, h⟩ := cond_z (f := fun r : T12 => r.2.2.2.2.2.2.2.2.2.2.2) rfl h
  obtain ⟨c15, h⟩ := cond_z (f := fun r : T12 => r.2.2.2.2.2.2.2.2.2.2.2) rfl h
  obtain ⟨c16, h⟩ := cond_z (f := fun r : T12 => r.2.2.2.2.2.2.2.2.2.2.2) rfl h
  have e : joinV a0 a1 a2 a3 a4 a5 a6 a7 a8 a9 a10 b0 b1 b2 b3 b4 b5 b6 b7 b8 b9 b10 = (a0, a1, a2, a3, a4, a5, a6, b7, a8, a9, a10 ++ b10, true) := by
    unfold joinV
    exact ((cf c1).trans ((cf c2).trans ((cf c3).trans ((cf c4).trans ((cf c5).trans ((cf c6).trans ((cf c7).trans ((cf c8).trans ((cf c9).trans ((cf c10).trans ((cf c11).trans ((cf c12).trans ((cf c13).trans ((cf c14).trans ((cf c15).trans (cf c16))))))))))))))))
  refine ⟨e, by simpa using c1, by simpa using c2, ⟨by simpa using c3, by simpa using c4, by simpa using c5, by simpa using c6, by simpa using c7, by simpa using c8⟩, ⟨c9, c10, c13, c14⟩, ⟨fun e => ?_, fun e => ?_⟩, by simpa using c15, by simpa using c16⟩
  · rw [e] at c11; cases c11
  · rw [e] at c12; cases c12
/-- a row joined, one more segment -/
def stJ (out : sgL) (s : den seg) : sgL :=
  match out.getLast? with
  | some p => (match jn p s with | some x => out.dropLast ++ [x] | none => out ++ [s])
  | none => [s]
def joinAll (l : sgL) : sgL := cond (l.all okD) (l.foldl stJ []) []

theorem jn_short {n : Nat} {a b x : den seg} (hn : 12 ≤ n) (hN : n ≤ 1048576) (ha : shortS n a) (hb : shortS n b) (h : jn a b = some x) : shortS n x := by
  unfold jn at h
  cases hj : (joinV a.1 a.2.1 a.2.2.1 a.2.2.2.1 a.2.2.2.2.1 a.2.2.2.2.2.1 a.2.2.2.2.2.2.1 a.2.2.2.2.2.2.2.1 a.2.2.2.2.2.2.2.2.1 a.2.2.2.2.2.2.2.2.2.1 a.2.2.2.2.2.2.2.2.2.2 b.1 b.2.1 b.2.2.1 b.2.2.2.1 b.2.2.2.2.1 b.2.2.2.2.2.1 b.2.2.2.2.2.2.1 b.2.2.2.2.2.2.2.1 b.2.2.2.2.2.2.2.2.1 b.2.2.2.2.2.2.2.2.2.1 b.2.2.2.2.2.2.2.2.2.2).2.2.2.2.2.2.2.2.2.2.2 with
  | false => rw [hj] at h; cases h
  | true =>
    rw [hj] at h
    simp only [cond_true, Option.some.injEq] at h
    obtain ⟨_, _, _, _, _, _, _, h12⟩ := joinV_true hj
    obtain ⟨ha9, ha10⟩ := ha
    obtain ⟨hb9, hb10⟩ := hb
    rw [i64_in _ (by omega)] at h12
    subst h
    refine ⟨ha9, ?_⟩
    simp only [List.length_append]
    omega
theorem stJ_short {n : Nat} (hn : 12 ≤ n) (hN : n ≤ 1048576) {out : sgL} {s : den seg} (ho : ∀ x ∈ out, shortS n x) (hs : shortS n s) : (∀ x ∈ stJ out s, shortS n x) ∧ (stJ out s).length ≤ out.length + 1 := by
  unfold stJ
  cases hl : out.getLast? with
  | none =>
    refine ⟨fun x hx => ?_, by simp⟩
    obtain rfl := List.mem_singleton.1 hx
    exact hs
  | some p =>
    have hp : p ∈ out := List.mem_of_getLast? hl
    have hne : out ≠ [] := by intro e; subst e; simp at hl
    have hpos : 0 < out.length := List.length_pos_iff.2 hne
    simp only
    cases hj : jn p s with
    | none =>
      refine ⟨fun x hx => ?_, by simp⟩
      rcases List.mem_append.1 hx with hx | hx
      · exact ho x hx
      · obtain rfl := List.mem_singleton.1 hx
        exact hs
    | some y =>
      refine ⟨fun x hx => ?_, by simp <;> omega⟩
      rcases List.mem_append.1 hx with hx | hx
      · exact ho x (List.dropLast_subset _ hx)
      · obtain rfl := List.mem_singleton.1 hx
        exact jn_short hn hN (ho p hp) hs hj
theorem foldJ_short {n : Nat} (hn : 12 ≤ n) (hN : n ≤ 1048576) : ∀ (l out : sgL), (∀ x ∈ out, shortS n x) → (∀ x ∈ l, shortS n x) → (∀ x ∈ l.foldl stJ out, shortS n x) ∧ (l.foldl stJ out).length ≤ out.length + l.length
  | [], out, ho, _ => ⟨ho, by simp⟩
  | a :: l, out, ho, hl => by
    obtain ⟨h1, h2⟩ := stJ_short hn hN ho (hl a (by simp))
    obtain ⟨h3, h4⟩ := foldJ_short hn hN l (stJ out a) h1 (fun x hx => hl x (by simp [hx]))
    refine ⟨h3, ?_⟩
    simp only [List.foldl_cons, List.length_cons]
    omega
theorem joinAll_short {n : Nat} (hn : 12 ≤ n) (hN : n ≤ 1048576) (l : sgL) (hl : ∀ x ∈ l, shortS n x) : (∀ x ∈ joinAll l, shortS n x) ∧ (joinAll l).length ≤ l.length := by
  unfold joinAll
  cases l.all okD with
  | false => exact ⟨fun x hx => by simp at hx, by simp⟩
  | true =>
    have := foldJ_short hn hN l [] (by simp) hl
    simpa using this
/-- one more segment, as both programs do it -/
theorem last_at (out : sgL) (hne : out ≠ []) : ∃ p, out.getLast? = some p ∧ atI out ((out.length : Int) - 1) = p ∧ ∀ v : den seg, out.set ((out.length : Int) - 1).toNat v = out.dropLast ++ [v] := by
  obtain ⟨d, p, rfl⟩ := snoc_of hne
  refine ⟨p, by simp, ?_, fun v => ?_⟩
  · have : (((d ++ [p]).length : Int) - 1) = ((d.length : Nat) : Int) := by simp
    rw [this, atI_get (d ++ [p]) d.length (by simp)]
    simp
  · have : (((d ++ [p]).length : Int) - 1).toNat = d.length := by simp
    rw [this]
    simp
theorem F49_eq (k : Nat) (l : sgL) : F49 k l = some l := by
  simp only [F49, F49_T]
  rw [decide_eq_true (by omega : (0 : Int) ≤ ((l.length : Nat) : Int))]
  simp
theorem joinV_false {a0 a1 a2 a3 a4 : Int} {a5 a6 a7 a8 : Bool} {a9 : List (den rng)} {a10 : List (den (.int .u8))} {b0 b1 b2 b3 b4 : Int} {b5 b6 b7 b8 : Bool} {b9 : List (den rng)} {b10 : List (den (.int .u8))} (h : (joinV a0 a1 a2 a3 a4 a5 a6 a7 a8 a9 a10 b0 b1 b2 b3 b4 b5 b6 b7 b8 b9 b10).2.2.2.2.2.2.2.2.2.2.2 = false) : joinV a0 a1 a2 a3 a4 a5 a6 a7 a8 a9 a10 b0 b1 b2 b3 b4 b5 b6 b7 b8 b9 b10 = (0, 0, 0, 0, 0, false, false, false, false, [], [], false) := by
  have step : ∀ {c : Bool} {x : T12}, x.2.2.2.2.2.2.2.2.2.2.2 = false ∨ x = x → (cond c (0, 0, 0, 0, 0, false, false, false, false, [], [], false) x).2.2.2.2.2.2.2.2.2.2.2 = false →
      c = true ∨ (c = false ∧ x.2.2.2.2.2.2.2.2.2.2.2 = false) := by
    intro c x _ h
    cases c with
    | true => exact .inl rfl
    | false => exact .inr ⟨rfl, h⟩
  have key : ∀ {c : Bool} {x : T12}, (x.2.2.2.2.2.2.2.2.2.2.2 = false → x = (0, 0, 0, 0, 0, false, false, false, false, [], [], false)) → (cond c (0, 0, 0, 0, 0, false, false, false, false, [], [], false) x).2.2.2.2.2.2.2.2.2.2.2 = false →
      cond c (0, 0, 0, 0, 0, false, false, false, false, [], [], false) x = ((0, 0, 0, 0, 0, false, false, false, false, [], [], false) : T12) := by
    intro c x hx h
    cases c with
    | true => rfl
    | false => exact hx h
  unfold joinV at h ⊢
  exact key (key (key (key (key (key (key (key (key (key (key (key (key (key (key (key (fun h => by cases h)))))))))))))))) h

/-! ### a reader's picks -/
def Sm {β : Type} (o : Option β) (P : β → Prop) : Prop := ∃ r, o = some r ∧ P r
theorem Sm.bind {α β : Type} {o : Option α} {f : α → Option β} {P : α → Prop} {Q : β → Prop} (h : Sm o P) (g : ∀ r, P r → Sm (f r) Q) : Sm (o.bind f) Q := by
  obtain ⟨r, e, p⟩ := h
  rw [e]
  exact g r p
theorem Sm.cond {β : Type} {c : Bool} {a b : Option β} {Q : β → Prop} (h1 : c = true → Sm a Q) (h2 : c = false → Sm b Q) : Sm (cond c a b) Q := by
  cases c
  · exact h2 rfl
  · exact h1 rfl
theorem Sm.ct {β : Type} {c : Bool} {a b : Option β} {Q : β → Prop} (hc : c = true) (h : Sm a Q) : Sm (_root_.cond c a b) Q := by rw [hc]; exact h
theorem Sm.cf {β : Type} {c : Bool} {a b : Option β} {Q : β → Prop} (hc : c = false) (h : Sm b Q) : Sm (_root_.cond c a b) Q := by rw [hc]; exact h
theorem wrapR (x : Int) : -9223372036854775808 ≤ IntKind.i64.wrap x ∧ IntKind.i64.wrap x ≤ 9223372036854775807 := by rw [IntKind.wrap_i64]; omega
def BOk (b : u8L) : Prop := ∀ x ∈ b, @LE.le Int _ 0 x ∧ @LE.le Int _ x 255
theorem atI_mem {t : Ty} {l : List (den t)} {i : Int} (h0 : 0 ≤ i) (h1 : i < (l.length : Nat)) : atI l i ∈ l := by
  obtain ⟨j, rfl⟩ := Int.eq_ofNat_of_zero_le h0
  rw [atI_get l j (by omega)]
  exact List.getElem_mem _
theorem xor_bound (x y : Int) (hx : 0 ≤ x ∧ x < 2 ^ 50) (hy : 0 ≤ y ∧ y < 2 ^ 50) : 0 ≤ bitsOf .xor .i64 x y ∧ bitsOf .xor .i64 x y < 2 ^ 50 := by
  obtain ⟨a, rfl⟩ := Int.eq_ofNat_of_zero_le hx.1
  obtain ⟨b, rfl⟩ := Int.eq_ofNat_of_zero_le hy.1
  have ha : a < 2 ^ 50 := by omega
  have hb : b < 2 ^ 50 := by omega
  have h1 : (BitVec.ofInt 64 (a : Int) ^^^ BitVec.ofInt 64 (b : Int)).toNat = a ^^^ b := by
    rw [BitVec.toNat_xor]
    simp only [BitVec.ofInt_natCast, BitVec.toNat_ofNat]
    rw [Nat.mod_eq_of_lt (by omega), Nat.mod_eq_of_lt (by omega)]
  have h2 : a ^^^ b < 2 ^ 50 := Nat.xor_lt_two_pow ha hb
  have h3 : bitsOf .xor .i64 (a : Int) (b : Int) = ((a ^^^ b : Nat) : Int) := by
    show IntKind.i64.wrap (((BitVec.ofInt 64 (a : Int) ^^^ BitVec.ofInt 64 (b : Int)).toNat : Nat) : Int) = _
    rw [h1, i64_in _ (by omega)]
  rw [h3]
  omega
theorem pick_ok (k : Nat) (b : u8L) (hb : BOk b) (hl : b.length ≤ 2000) (p n : Int) (hp : 0 ≤ p) (hp2 : p < 2 ^ 30) : ∃ r, F43 k b p n = some (r, b, p + 1) ∧ 0 ≤ r ∧ (1 ≤ n → r < n) ∧ (n < 1 → r = 0) := by
  unfold F43 F43_T
  rw [i64_in (p + 1) (by omega), show p + 1 - 1 = p by omega, i64_in p (by omega)]
  by_cases hn : n < 1
  · rw [decide_eq_true hn]; exact ⟨0, rfl, by omega, by omega, fun _ => rfl⟩
  · rw [decide_eq_false hn, cond_false]
    by_cases h0 : b.length = 0
    · have : (((b.length : Nat) : Int) == 0) = true := by simp [h0]
      rw [this]; exact ⟨0, rfl, by omega, by omega, fun _ => rfl⟩
    · have : (((b.length : Nat) : Int) == 0) = false := by simp [h0]
      rw [this, cond_false]
      have hpos : 0 < ((b.length : Nat) : Int) := by omega
      by_cases hlt : p < ((b.length : Nat) : Int)
      · rw [decide_eq_true hlt, decide_eq_true hp, decide_eq_false (by omega : ¬ n = 0)]
        simp only [cond_true, cond_false]
        have hm := hb _ (atI_mem hp hlt)
        rw [i64_in (atI b p) ⟨Int.le_trans (by decide) hm.1, Int.le_trans hm.2 (by decide)⟩]
        exact ⟨_, rfl, Int.tmod_nonneg _ hm.1, fun h => Int.tmod_lt_of_pos _ (by omega), by omega⟩
      · rw [decide_eq_false hlt, decide_eq_false (by omega : ¬ ((b.length : Nat) : Int) = 0)]
        simp only [cond_false]
        rw [i64_in (p * 7) (by omega), i64_in (p * 7 + 3) (by omega)]
        have m1 : 0 ≤ p.tmod ((b.length : Nat) : Int) := Int.tmod_nonneg _ hp
        have m2 : p.tmod ((b.length : Nat) : Int) < ((b.length : Nat) : Int) := Int.tmod_lt_of_pos _ hpos
        have m3 : 0 ≤ (p * 7 + 3).tmod ((b.length : Nat) : Int) := Int.tmod_nonneg _ (by omega)
        have m4 : (p * 7 + 3).tmod ((b.length : Nat) : Int) < ((b.length : Nat) : Int) := Int.tmod_lt_of_pos _ hpos
        have m5 : 0 ≤ p.tdiv ((b.length : Nat) : Int) := Int.tdiv_nonneg hp (by omega)
        have m6 : p.tdiv ((b.length : Nat) : Int) ≤ p := Int.tdiv_le_self _ hp
        rw [decide_eq_true m1, decide_eq_true m2, decide_eq_true m3, decide_eq_true m4, decide_eq_false (by omega : ¬ n = 0)]
        simp only [cond_true, cond_false]
        have g1 := hb _ (atI_mem m1 m2)
        have g2 := hb _ (atI_mem m3 m4)
        obtain ⟨x1, hx1⟩ : ∃ x : Int, x = atI b (p.tmod ((b.length : Nat) : Int)) := ⟨_, rfl⟩
        obtain ⟨x2, hx2⟩ : ∃ x : Int, x = atI b ((p * 7 + 3).tmod ((b.length : Nat) : Int)) := ⟨_, rfl⟩
        rw [← hx1] at g1 ⊢
        rw [← hx2] at g2 ⊢
        generalize p.tdiv ((b.length : Nat) : Int) = q at *
        have g1 : 0 ≤ x1 ∧ x1 ≤ 255 := g1
        have g2 : 0 ≤ x2 ∧ x2 ≤ 255 := g2
        rw [i64_in x1 (by omega), i64_in x2 (by omega), i64_in (x1 * 131) (by omega), i64_in (x2 * 1117) (by omega), i64_in (x1 * 131 + x2 * 1117) (by omega), i64_in (p * 29) (by omega), i64_in (x1 * 131 + x2 * 1117 + p * 29) (by omega),
          i64_in q (by omega), i64_in (q * 53) (by omega), i64_in (x1 * 131 + x2 * 1117 + p * 29 + q * 53) (by omega)]
        generalize hX : x1 * 131 + x2 * 1117 + p * 29 + q * 53 = X
        have hX1 : 0 ≤ X ∧ X < 2 ^ 50 := by omega
        have d1 : 0 ≤ X.tdiv 64 := Int.tdiv_nonneg hX1.1 (by omega)
        have d2 : X.tdiv 64 ≤ X := Int.tdiv_le_self _ hX1.1
        rw [i64_in (X.tdiv 64) (by omega)]
        have hxo := xor_bound X (X.tdiv 64) hX1 (by omega)
        exact ⟨_, rfl, Int.tmod_nonneg _ hxo.1, fun h => Int.tmod_lt_of_pos _ (by omega), by omega⟩
theorem pk {β : Type} (k : Nat) {b : u8L} (hb : BOk b) (hl : b.length ≤ 2000) {p n : Int} (hp : 0 ≤ p) (hp2 : p < 1000000) (hn : 1 ≤ n) {f : Int × u8L × Int → Option β} {Q : β → Prop}
    (h : ∀ x : Int, 0 ≤ x → x < n → Sm (f (x, b, p + 1)) Q) : Sm ((F43 k b p n).bind f) Q := by
  obtain ⟨r, e, h0, h1, _⟩ := pick_ok k b hb hl p n hp (by omega)
  rw [e]
  exact h r h0 (h1 hn)
theorem open_ok (k : Nat) (b : u8L) (hb : BOk b) : ∃ b', F41 k b = some (b', 0) ∧ BOk b' ∧ b'.length ≤ 2000 := by
  unfold F41 F41_T
  by_cases h : ((b.length : Nat) : Int) > 2000
  · rw [decide_eq_true h, cond_true]
    rw [decide_eq_true (by omega : (2000 : Int) ≤ ((b.length : Nat) : Int))]
    exact ⟨_, rfl, fun x hx => hb x (List.mem_of_mem_take hx), by simp; omega⟩
  · rw [decide_eq_false h, cond_false]
    exact ⟨_, rfl, hb, by omega⟩
theorem BOk.of {b : u8L} (h : Wf (.sl (.int .u8)) b) : BOk b := fun x hx => by
  have := h.2 x hx
  unfold Wf Lit.wf at this
  simp only [Bool.and_eq_true, decide_eq_true_eq] at this
  exact this
theorem sqk {β : Type} (k : Nat) {b : u8L} (hb : BOk b) (hl : b.length ≤ 2000) {p : Int} (hp : 0 ≤ p) (hp2 : p < 999900) {f : Int × u8L × Int → Option β} {Q : β → Prop}
    (h : ∀ x : Int, -100000 ≤ x → x ≤ 100000 → Sm (f (x, b, p + 6)) Q) : Sm ((F85 k b p).bind f) Q := by
  refine Sm.bind (P := fun r => -100000 ≤ r.1 ∧ r.1 ≤ 100000 ∧ r.2 = (b, p + 6)) ?_ (fun r hr => ?_)
  · unfold F85 F85_T
    refine pk k hb hl (by omega) (by omega) (by omega) fun x1 _ _ => ?_
    dsimp only
    refine pk k hb hl (by omega) (by omega) (by omega) fun x2 _ _ => ?_
    dsimp only
    refine pk k hb hl (by omega) (by omega) (by omega) fun x3 _ _ => ?_
    dsimp only
    refine pk k hb hl (by omega) (by omega) (by omega) fun x4 _ _ => ?_
    dsimp only
    refine pk k hb hl (by omega) (by omega) (by omega) fun x5 _ _ => ?_
    dsimp only
    refine pk k hb hl (by omega) (by omega) (by omega) fun x6 h6 h7 => ?_
    dsimp only
    rw [i64_in (65535 - x2) (by omega), i64_in (32768 + x3) (by omega), i64_in (32768 + x3 - 2) (by omega), i64_in (x4 * 256) (by omega), i64_in (x4 * 256 + x5) (by omega)]
    refine Sm.ct (decide_eq_true h6) (Sm.ct (decide_eq_true (by simp only [List.length_cons, List.length_nil]; omega)) ⟨_, rfl, ?_⟩)
    have hc : x6 = 0 ∨ x6 = 1 ∨ x6 = 2 ∨ x6 = 3 := by omega
    rcases hc with rfl | rfl | rfl | rfl
    · exact ⟨show -100000 ≤ x1 by omega, show x1 ≤ 100000 by omega, by simp only [Prod.mk.injEq, true_and]; omega⟩
    · exact ⟨show -100000 ≤ 65535 - x2 by omega, show 65535 - x2 ≤ 100000 by omega, by simp only [Prod.mk.injEq, true_and]; omega⟩
    · exact ⟨show -100000 ≤ 32768 + x3 - 2 by omega, show 32768 + x3 - 2 ≤ 100000 by omega, by simp only [Prod.mk.injEq, true_and]; omega⟩
    · exact ⟨show -100000 ≤ x4 * 256 + x5 by omega, show x4 * 256 + x5 ≤ 100000 by omega, by simp only [Prod.mk.injEq, true_and]; omega⟩
  · obtain ⟨x, y⟩ := r
    obtain ⟨h0, h1, rfl⟩ := hr
    exact h x h0 h1
theorem bytes_l (k : Nat) (a0 : u8L) (a1 a2 : Int) {b : u8L} (hb : BOk b) (hl : b.length ≤ 2000) : ∀ (n c : Nat) (p : Int) (m : u8L), c < n → c ≤ 100 → 0 ≤ p → p + 2 * c < 999900 → m.length + c ≤ 1000 →
    Sm (F44_l0 k a0 a1 a2 n (c : Int) b p m) fun r => r.1.length = m.length + c ∧ r.2 = (b, p + 2 * c)
  | 0, c, p, m, h, _, _, _, _ => by omega
  | n + 1, 0, p, m, h, hc, hp, hp2, hm => by
    rw [F44_l0]
    unfold F44_l0_T
    refine Sm.cf (decide_eq_false (by omega)) ⟨_, rfl, by simp, ?_⟩
    simp
  | n + 1, c + 1, p, m, h, hc, hp, hp2, hm => by
    rw [F44_l0]
    unfold F44_l0_T
    have e : IntKind.i64.wrap (((c + 1 : Nat) : Int) - 1) = (c : Int) := by rw [i64_in _ (by omega)]; omega
    rw [e]
    have fin : ∀ y : den (.int .u8), Sm (F44_l0 k a0 a1 a2 n (c : Int) b (p + 1 + 1) (m ++ [y])) fun r => r.1.length = m.length + (c + 1) ∧ r.2 = (b, p + 2 * ((c + 1 : Nat) : Int)) := fun y => by
      obtain ⟨r, e1, e2, e3⟩ := bytes_l k a0 a1 a2 hb hl n c (p + 1 + 1) (m ++ [y]) (by omega) (by omega) (by omega) (by omega) (by
        simp only [List.length_append, List.length_singleton]
        omega)
      refine ⟨r, e1, by rw [e2]; simp only [List.length_append, List.length_singleton]; omega, ?_⟩
      rw [e3]
      simp only [Prod.mk.injEq, true_and]
      omega
    refine Sm.ct (decide_eq_true (by omega)) ?_
    refine pk k hb hl (by omega) (by omega) (by omega) fun x1 _ _ => ?_
    dsimp only
    refine Sm.cond (fun _ => ?_) (fun _ => ?_)
    · refine pk k hb hl (by omega) (by omega) (by omega) fun x2 _ _ => ?_
      dsimp only
      exact Sm.ct (decide_eq_true (by simp only [List.length_singleton]; omega)) (fin _)
    · refine pk k hb hl (by omega) (by omega) (by omega) fun x2 _ _ => ?_
      dsimp only
      exact Sm.ct (decide_eq_true (by simp only [List.length_singleton]; omega)) (fin _)
theorem btk {β : Type} (k : Nat) (hk : 100 < k) {b : u8L} (hb : BOk b) (hl : b.length ≤ 2000) {p n : Int} (hp : 0 ≤ p) (hp2 : p < 999000) (hn : 0 ≤ n ∧ n ≤ 100) {f : u8L × u8L × Int → Option β} {Q : β → Prop}
    (h : ∀ x : u8L, (x.length : Int) = n → Sm (f (x, b, p + 2 * n)) Q) : Sm ((F44 k b p n).bind f) Q := by
  obtain ⟨c, rfl⟩ := Int.eq_ofNat_of_zero_le hn.1
  obtain ⟨⟨x, y⟩, e, e1, e2⟩ := bytes_l k b p (c : Int) hb hl k c p [] (by omega) (by omega) (by omega) (by omega) (by simp; omega)
  dsimp only at e1 e2
  subst e2
  rw [show F44 k b p (c : Int) = some (x, b, p + 2 * (c : Int)) from e]
  exact h x (by rw [e1]; simp)
theorem odk {β : Type} (k : Nat) {b : u8L} (hb : BOk b) (hl : b.length ≤ 2000) {p n : Int} (hp : 0 ≤ p) (hp2 : p < 1000000) {f : Bool × u8L × Int → Option β} {Q : β → Prop}
    (h : ∀ (x : Bool) (p' : Int), p ≤ p' → p' ≤ p + 1 → Sm (f (x, b, p')) Q) : Sm ((F86 k b p n).bind f) Q := by
  unfold F86 F86_T
  by_cases hn : n > 0
  · rw [decide_eq_true hn, cond_true]
    obtain ⟨r, e, _⟩ := pick_ok k b hb hl p n hp (by omega)
    rw [e]
    exact h _ (p + 1) (by omega) (by omega)
  · rw [decide_eq_false hn]
    exact h _ _ (by omega) (by omega)

/-! ### drawn segments -/
/-- a drawn segment, and where the reader is then -/
def Sd (b : u8L) (p q : Int) (r : Int × Int × Int × Int × Int × Bool × Bool × Bool × Bool × rgL × u8L × u8L × Int) : Prop :=
  (-9223372036854775808 ≤ r.2.2.1 ∧ r.2.2.1 ≤ 9223372036854775807) ∧ r.2.2.2.2.2.2.2.2.2.1.length ≤ 2 ∧ r.2.2.2.2.2.2.2.2.2.2.1.length ≤ 14 ∧ r.2.2.2.2.2.2.2.2.2.2.2.1 = b ∧ p ≤ r.2.2.2.2.2.2.2.2.2.2.2.2 ∧ r.2.2.2.2.2.2.2.2.2.2.2.2 ≤ q
theorem seg_l (k : Nat) (a0 : u8L) (a1 a2 : Int) {b : u8L} (hb : BOk b) (hl : b.length ≤ 2000) (m0 m1 m2 m3 m4 : Int) (m5 m7 : Bool) (m10 : u8L) (hm2 : -100000 ≤ m2 ∧ m2 ≤ 100000) (hm10 : m10.length ≤ 14) : ∀ (n c : Nat) (p : Int) (m9 : rgL), c < n → c ≤ 2 → 0 ≤ p → p + 12 * c < 990000 → m9.length + c ≤ 2 →
    Sm (F42_l0 k a0 a1 a2 n (c : Int) b p m0 m1 m2 m3 m4 m5 m7 m9 m10) (Sd b p (p + 12 * c + 10))
  | 0, c, p, m9, h, _, _, _, _ => by omega
  | n + 1, 0, p, m9, h, hc, hp, hp2, hm => by
    rw [F42_l0]
    unfold F42_l0_T
    refine Sm.cf (decide_eq_false (by omega)) ?_
    repeat' (first
      | (refine pk k hb hl (by omega) (by omega) (by omega) fun x _ _ => ?_; dsimp only)
      | (refine odk k hb hl (by omega) (by omega) fun x p' _ _ => ?_; dsimp only)
      | refine Sm.ct (by rw [decide_eq_true (by omega), decide_eq_true (by omega), decide_eq_true (by omega)]; rfl) ?_
      | refine Sm.cond (fun _ => ?_) (fun _ => ?_))
    all_goals exact ⟨_, rfl, by first | exact wrapR _ | (dsimp only; omega), by dsimp only; omega, by (try simp only [List.length_nil, List.length_replicate]); omega, rfl, by dsimp only; omega, by dsimp only; omega⟩
  | n + 1, c + 1, p, m9, h, hc, hp, hp2, hm => by
    rw [F42_l0]
    unfold F42_l0_T
    have e : IntKind.i64.wrap (((c + 1 : Nat) : Int) - 1) = (c : Int) := by rw [i64_in _ (by omega)]; omega
    rw [e]
    refine Sm.ct (decide_eq_true (by omega)) ?_
    refine sqk k hb hl (by omega) (by omega) fun x _ _ => ?_
    dsimp only
    refine sqk k hb hl (by omega) (by omega) fun y _ _ => ?_
    dsimp only
    refine Sm.ct (decide_eq_true (by simp only [List.length_singleton]; omega)) ?_
    obtain ⟨r, e1, q1, q2, q3, q4, q5, q6⟩ := seg_l k a0 a1 a2 hb hl m0 m1 m2 m3 m4 m5 m7 m10 hm2 hm10 n c (p + 6 + 6) (m9 ++ [(x, y)]) (by omega) (by omega) (by omega) (by omega) (by simp only [List.length_append, List.length_singleton]; omega)
    exact ⟨r, e1, q1, q2, q3, q4, by omega, by omega⟩
theorem seg_ok (k : Nat) (hk : 100 < k) {b : u8L} (hb : BOk b) (hl : b.length ≤ 2000) (p n : Int) (hp : 0 ≤ p) (hp2 : p < 980000) : Sm (F42 k b p n) (Sd b p (p + 100)) := by
  unfold F42 F42_T
  refine pk k hb hl (by omega) (by omega) (by omega) fun x1 _ _ => ?_
  dsimp only
  refine pk k hb hl (by omega) (by omega) (by omega) fun x2 _ _ => ?_
  dsimp only
  refine sqk k hb hl (by omega) (by omega) fun x3 _ _ => ?_
  dsimp only
  refine pk k hb hl (by omega) (by omega) (by omega) fun x4 _ _ => ?_
  dsimp only
  refine btk k hk hb hl (by omega) (by omega) (by omega) fun x5 _ => ?_
  dsimp only
  refine pk k hb hl (by omega) (by omega) (by omega) fun x6 _ _ => ?_
  dsimp only
  refine pk k hb hl (by omega) (by omega) (by omega) fun x7 _ _ => ?_
  dsimp only
  refine pk k hb hl (by omega) (by omega) (by omega) fun x8 _ _ => ?_
  dsimp only
  refine Sm.cond (fun _ => ?_) (fun _ => ?_)
  · refine sqk k hb hl (by omega) (by omega) fun x9 _ _ => ?_
    dsimp only
    refine pk k hb hl (by omega) (by omega) (by omega) fun x10 _ _ => ?_
    dsimp only
    refine pk k hb hl (by omega) (by omega) (by omega) fun x11 h11 h12 => ?_
    dsimp only
    obtain ⟨c, rfl⟩ := Int.eq_ofNat_of_zero_le h11
    obtain ⟨r, e1, q1, q2, q3, q4, q5, q6⟩ := seg_l k b p n hb hl (IntKind.i64.wrap (1 + x1)) (IntKind.i64.wrap (1 + x2)) x3 x9 x10 (x6 == 0) (x7 == 0) x5 (by omega) (by omega) k c (p + 1 + 1 + 6 + 1 + 2 * x4 + 1 + 1 + 1 + 6 + 1 + 1) [] (by omega) (by omega) (by omega) (by omega) (by simp; omega)
    exact ⟨r, e1, q1, q2, q3, q4, by omega, by omega⟩
  · repeat' (first
      | (refine pk k hb hl (by omega) (by omega) (by omega) fun x _ _ => ?_; dsimp only)
      | (refine odk k hb hl (by omega) (by omega) fun x p' _ _ => ?_; dsimp only)
      | refine Sm.ct (by rw [decide_eq_true (by omega), decide_eq_true (by omega), decide_eq_true (by omega)]; rfl) ?_
      | refine Sm.cond (fun _ => ?_) (fun _ => ?_))
    all_goals exact ⟨_, rfl, by first | exact wrapR _ | (dsimp only; omega), by simp, by (try simp only [List.length_nil, List.length_replicate]); omega, rfl, by dsimp only; omega, by dsimp only; omega⟩
theorem seqOf_in (a : Int) : -9223372036854775808 ≤ seqOf a ∧ seqOf a ≤ 9223372036854775807 := by
  unfold seqOf
  have hm := Int.tmod_lt_of_pos a (show (0 : Int) < 65536 by omega)
  have hm2 : -65536 < a.tmod 65536 := by
    have := Int.tmod_lt_of_pos (-a) (show (0 : Int) < 65536 by omega)
    rw [Int.neg_tmod] at this
    omega
  cases decide (a.tmod 65536 < 0)
  · exact ⟨by rw [cond_false]; omega, by rw [cond_false]; omega⟩
  · exact wrapR _
/-- a short segment whose number is one -/
def Sg (s : den seg) : Prop := shortS 14 s ∧ -9223372036854775808 ≤ s.2.2.1 ∧ s.2.2.1 ≤ 9223372036854775807
theorem cut_l (k : Nat) (a0 a1 a2 a3 a4 : Int) (a5 a6 a7 a8 : Bool) (a9 : List (den rng)) (a10 : List (den (.int .u8))) (lim : Int) (h2 : -9223372036854775808 ≤ a2 ∧ a2 ≤ 9223372036854775807) (h9 : a9.length ≤ 2) (h10 : a10.length ≤ 14) (hlim : 1 ≤ lim ∧ lim ≤ 12) : ∀ (n : Nat) (x : Int) (out : sgL), 0 ≤ x → x ≤ 30 → 31 - x < n → (out.length : Int) ≤ x → (∀ s ∈ out, Sg s) →
    Sm (F13_l0 k a0 a1 a2 a3 a4 a5 a6 a7 a8 a9 a10 lim n x out) fun l => l.length ≤ 30 ∧ ∀ s ∈ l, Sg s
  | 0, x, out, _, _, h, _, _ => by omega
  | n + 1, x, out, h0, h1, hn, hx, ho => by
    rw [F13_l0]
    have j2 : ∀ (b3 : den seg) (b5 : Int), x ≤ 14 → b3.2.2.2.2.2.2.2.2.2.1.length ≤ 2 → (-9223372036854775808 ≤ b5 ∧ b5 ≤ 9223372036854775807) →
        Sm (F13_l0_j2 k a0 a1 a2 a3 a4 a5 a6 a7 a8 a9 a10 lim (fun x out => F13_l0 k a0 a1 a2 a3 a4 a5 a6 a7 a8 a9 a10 lim n x out) some out b3 b5 x) fun l => l.length ≤ 30 ∧ ∀ s ∈ l, Sg s := fun b3 b5 hx' hb3 hb5 => by
      unfold F13_l0_j2
      rw [i64_in (x + lim) (by omega)]
      have fin : ∀ s : den seg, Sg s → Sm (F13_l0 k a0 a1 a2 a3 a4 a5 a6 a7 a8 a9 a10 lim n (x + lim) (out ++ [s])) fun l => l.length ≤ 30 ∧ ∀ s ∈ l, Sg s := fun s hs =>
        cut_l k a0 a1 a2 a3 a4 a5 a6 a7 a8 a9 a10 lim h2 h9 h10 hlim n (x + lim) (out ++ [s]) (by omega) (by omega) (by omega) (by simp only [List.length_append, List.length_singleton]; omega) (fun y hy => by
          rcases List.mem_append.1 hy with hy | hy
          · exact ho y hy
          · obtain rfl := List.mem_singleton.1 hy
            exact hs)
      have hd : ∀ e : Nat, ((a10.take e).drop x.toNat).length ≤ 14 := fun e => by rw [List.length_drop, List.length_take]; omega
      cases a7 with
      | true => exact Sm.ct rfl (Sm.ct (decide_eq_true (by simp only [List.length_singleton]; omega)) (fin _ ⟨⟨by dsimp only; omega, hd _⟩, hb5⟩))
      | false => exact Sm.cf rfl (Sm.ct (decide_eq_true (by simp only [List.length_singleton]; omega)) (fin _ ⟨⟨by dsimp only; omega, hd _⟩, hb5⟩))
    have j1 : x ≤ 14 → (x = 0 ∨ x < ((a10.length : Nat) : Int)) → Sm (F13_l0_j1 k a0 a1 a2 a3 a4 a5 a6 a7 a8 a9 a10 lim (fun x out => F13_l0 k a0 a1 a2 a3 a4 a5 a6 a7 a8 a9 a10 lim n x out) some x out) fun l => l.length ≤ 30 ∧ ∀ s ∈ l, Sg s := fun hx' hxl => by
      unfold F13_l0_j1
      rw [F52_eq k a0 a1 a2 a3 a4 a5 a6 a7 a8 a9 a10 (by omega) (by omega), Option.bind_some, i64_in (x + lim) (by omega)]
      have he : ∀ e : Int, (if ((a10.length : Nat) : Int) < x + lim then ((a10.length : Nat) : Int) else x + lim) = e → 0 ≤ e ∧ e ≤ ((a10.length : Nat) : Int) ∧ x ≤ e := by
        intro e he
        split at he <;> subst he <;> omega
      obtain ⟨e0, e1, e2⟩ := he _ rfl
      have fin : ∀ s : den seg, Sg s → Sm (F13_l0 k a0 a1 a2 a3 a4 a5 a6 a7 a8 a9 a10 lim n (x + lim) (out ++ [s])) fun l => l.length ≤ 30 ∧ ∀ s ∈ l, Sg s := fun s hs =>
        cut_l k a0 a1 a2 a3 a4 a5 a6 a7 a8 a9 a10 lim h2 h9 h10 hlim n (x + lim) (out ++ [s]) (by omega) (by omega) (by omega) (by simp only [List.length_append, List.length_singleton]; omega) (fun y hy => by
          rcases List.mem_append.1 hy with hy | hy
          · exact ho y hy
          · obtain rfl := List.mem_singleton.1 hy
            exact hs)
      have hd : ∀ e : Nat, ((a10.take e).drop x.toNat).length ≤ 14 := fun e => by rw [List.length_drop, List.length_take]; omega
      refine Sm.ct (by rw [decide_eq_true e0, decide_eq_true e1]; rfl) (Sm.ct (by rw [decide_eq_true h0, decide_eq_true e2]; rfl) (Sm.ct (decide_eq_true (by simp only [List.length_nil]; have := hd (if ((a10.length : Nat) : Int) < x + lim then ((a10.length : Nat) : Int) else x + lim).toNat; omega)) ?_))
      refine Sm.cond (fun _ => ?_) (fun _ => ?_)
      · rw [F53_val, Option.bind_some]
        refine Sm.cond (fun _ => ?_) (fun _ => ?_)
        · rw [F53_val, Option.bind_some]
          exact j2 (a0, a1, a2, a3, a4, a5, a6, a7, a8, a9, a10) _ hx' h9 (seqOf_in _)
        · exact j2 (a0, a1, a2, a3, a4, a5, a6, a7, a8, a9, a10) _ hx' h9 (seqOf_in _)
      · refine Sm.cond (fun _ => ?_) (fun _ => ?_)
        · exact Sm.ct (decide_eq_true (by simp only [List.length_singleton]; omega)) (fin _ ⟨⟨by dsimp only; omega, hd _⟩, h2⟩)
        · exact Sm.ct (decide_eq_true (by simp only [List.length_singleton]; omega)) (fin _ ⟨⟨by dsimp only; omega, hd _⟩, h2⟩)
    unfold F13_l0_T
    refine Sm.cond (fun hc => ?_) (fun hc => ?_)
    · have : x = 0 := by simpa using hc
      exact j1 (by omega) (.inl this)
    · refine Sm.cond (fun hc => ?_) (fun hc => ?_)
      · have : x < ((a10.length : Nat) : Int) := of_decide_eq_true hc
        exact j1 (by omega) (.inr this)
      · exact ⟨_, rfl, by omega, ho⟩
theorem cut_ok (k : Nat) (a0 a1 a2 a3 a4 : Int) (a5 a6 a7 a8 : Bool) (a9 : List (den rng)) (a10 : List (den (.int .u8))) (lim : Int) (h2 : -9223372036854775808 ≤ a2 ∧ a2 ≤ 9223372036854775807) (h9 : a9.length ≤ 2) (h10 : a10.length ≤ 14) (hk : 100 < k) : Sm (F13 k a0 a1 a2 a3 a4 a5 a6 a7 a8 a9 a10 lim) fun l => l.length ≤ 30 ∧ ∀ s ∈ l, Sg s := by
  unfold F13 F13_T
  rw [F50_eq k a0 a1 a2 a3 a4 a5 a6 a7 a8 a9 a10 (by omega) (by omega), Option.bind_some]
  refine Sm.cond (fun _ => ⟨_, rfl, by simp, by simp⟩) (fun _ => ?_)
  rw [F51_eq, Option.bind_some]
  refine Sm.cond (fun _ => ⟨_, rfl, by simp, by simp⟩) (fun hc => ?_)
  have hlim : 1 ≤ lim ∧ lim ≤ 12 := by simpa [inB] using hc
  exact cut_l k a0 a1 a2 a3 a4 a5 a6 a7 a8 a9 a10 lim h2 h9 h10 hlim k 0 [] (by omega) (by omega) (by omega) (by simp) (by simp)

/-! ### drawn rows of segments -/
/-! ### what is alike -/
theorem F60_self (k : Nat) (a : rgL) (h9 : a.length ≤ 4194304) (k9 : a.length < k) : F60 k a a = some true := by
  have := foldLoop a (fun n (_ : Unit) j => F60_l0 k a a n j) (fun s _ => s) (fun _ => true)
    (fun n s j h => by
      simp only [F60_l0, F60_l0_T]
      rw [atI_get a j h, up1 j (by omega), eqD_rng]
      simp [h])
    (fun n s => by simp [F60_l0, F60_l0_T]) k () 0 (Nat.zero_le _) (by omega)
  simp only [F60, F60_T, bne_self_eq_false, cond_false]
  exact this
theorem F18_self (k : Nat) (a0 a1 a2 a3 a4 : Int) (a5 a6 a7 a8 : Bool) (a9 : List (den rng)) (a10 : List (den (.int .u8))) (h9 : a9.length ≤ 4194304) (k9 : a9.length < k) : F18 k a0 a1 a2 a3 a4 a5 a6 a7 a8 a9 a10 a0 a1 a2 a3 a4 a5 a6 a7 a8 a9 a10 = some true := by
  unfold F18 F18_T
  simp only [beq_self_eq_true, cond_true, F60_self k a9 h9 k9, Option.bind_some, F35]
theorem F12_self (k : Nat) (l : sgL) (h : l.length ≤ 4194304) (hk : l.length < k) (hk2 : 100 < k) (hs : ∀ s ∈ l, Sg s) : F12 k l l = some true := by
  have := foldLoop l (fun n (_ : Unit) j => F12_l0 k l l n j) (fun s _ => s) (fun _ => true)
    (fun n s j h => by
      obtain ⟨⟨g9, g10⟩, _⟩ := hs l[j] (List.getElem_mem h)
      simp only [F12_l0, F12_l0_T]
      rw [atI_get l j h, up1 j (by omega), F18_self k l[j].1 l[j].2.1 l[j].2.2.1 l[j].2.2.2.1 l[j].2.2.2.2.1 l[j].2.2.2.2.2.1 l[j].2.2.2.2.2.2.1 l[j].2.2.2.2.2.2.2.1 l[j].2.2.2.2.2.2.2.2.1 l[j].2.2.2.2.2.2.2.2.2.1 l[j].2.2.2.2.2.2.2.2.2.2 (by omega) (by omega)]
      simp [h])
    (fun n s => by simp [F12_l0, F12_l0_T]) k () 0 (Nat.zero_le _) (by omega)
  simp only [F12, F12_T, bne_self_eq_false, cond_false]
  exact this
theorem F15_true (k : Nat) (hk : 100 ≤ k) : F15 k = some true := by
  obtain ⟨n, rfl⟩ : ∃ n, k = n + 2 := ⟨k - 2, by omega⟩
  unfold F15 F15_T F58 F58_T
  have h1 : inB 1 1 4 = true := by decide
  have h2 : inB 5 0 (IntKind.i64.wrap ((IntKind.i64.wrap (1 * 2 ^ (min (IntKind.i64.wrap (8 * 1)).toNat 64))) - 1)) = true := by decide
  have h3 : inB 256 0 (IntKind.i64.wrap ((IntKind.i64.wrap (1 * 2 ^ (min (IntKind.i64.wrap (8 * 1)).toNat 64))) - 1)) = false := by decide
  simp only [F45_eq, Option.bind_some, h1, h2, h3]
  rfl

/-! ### joined rows -/
def lgD (s : den seg) : Int := longS s.2.2.2.2.2.1 s.2.2.2.2.2.2.2.1 s.2.2.2.2.2.2.2.2.2.2
theorem jn_none {a b : den seg} (h : jn a b = none) : (joinV a.1 a.2.1 a.2.2.1 a.2.2.2.1 a.2.2.2.2.1 a.2.2.2.2.2.1 a.2.2.2.2.2.2.1 a.2.2.2.2.2.2.2.1 a.2.2.2.2.2.2.2.2.1 a.2.2.2.2.2.2.2.2.2.1 a.2.2.2.2.2.2.2.2.2.2 b.1 b.2.1 b.2.2.1 b.2.2.2.1 b.2.2.2.2.1 b.2.2.2.2.2.1 b.2.2.2.2.2.2.1 b.2.2.2.2.2.2.2.1 b.2.2.2.2.2.2.2.2.1 b.2.2.2.2.2.2.2.2.2.1 b.2.2.2.2.2.2.2.2.2.2).2.2.2.2.2.2.2.2.2.2.2 = false := by
  unfold jn at h
  cases e : (joinV a.1 a.2.1 a.2.2.1 a.2.2.2.1 a.2.2.2.2.1 a.2.2.2.2.2.1 a.2.2.2.2.2.2.1 a.2.2.2.2.2.2.2.1 a.2.2.2.2.2.2.2.2.1 a.2.2.2.2.2.2.2.2.2.1 a.2.2.2.2.2.2.2.2.2.2 b.1 b.2.1 b.2.2.1 b.2.2.2.1 b.2.2.2.2.1 b.2.2.2.2.2.1 b.2.2.2.2.2.2.1 b.2.2.2.2.2.2.2.1 b.2.2.2.2.2.2.2.2.1 b.2.2.2.2.2.2.2.2.2.1 b.2.2.2.2.2.2.2.2.2.2).2.2.2.2.2.2.2.2.2.2.2 with
  | false => rfl
  | true => rw [e] at h; cases h
theorem jn_some {a b x : den seg} (h : jn a b = some x) : (joinV a.1 a.2.1 a.2.2.1 a.2.2.2.1 a.2.2.2.2.1 a.2.2.2.2.2.1 a.2.2.2.2.2.2.1 a.2.2.2.2.2.2.2.1 a.2.2.2.2.2.2.2.2.1 a.2.2.2.2.2.2.2.2.2.1 a.2.2.2.2.2.2.2.2.2.2 b.1 b.2.1 b.2.2.1 b.2.2.2.1 b.2.2.2.2.1 b.2.2.2.2.2.1 b.2.2.2.2.2.2.1 b.2.2.2.2.2.2.2.1 b.2.2.2.2.2.2.2.2.1 b.2.2.2.2.2.2.2.2.2.1 b.2.2.2.2.2.2.2.2.2.2).2.2.2.2.2.2.2.2.2.2.2 = true ∧
    x = (a.1, a.2.1, a.2.2.1, a.2.2.2.1, a.2.2.2.2.1, a.2.2.2.2.2.1, a.2.2.2.2.2.2.1, b.2.2.2.2.2.2.2.1, a.2.2.2.2.2.2.2.2.1, a.2.2.2.2.2.2.2.2.2.1, a.2.2.2.2.2.2.2.2.2.2 ++ b.2.2.2.2.2.2.2.2.2.2) := by
  unfold jn at h
  cases e : (joinV a.1 a.2.1 a.2.2.1 a.2.2.2.1 a.2.2.2.2.1 a.2.2.2.2.2.1 a.2.2.2.2.2.2.1 a.2.2.2.2.2.2.2.1 a.2.2.2.2.2.2.2.2.1 a.2.2.2.2.2.2.2.2.2.1 a.2.2.2.2.2.2.2.2.2.2 b.1 b.2.1 b.2.2.1 b.2.2.2.1 b.2.2.2.2.1 b.2.2.2.2.2.1 b.2.2.2.2.2.2.1 b.2.2.2.2.2.2.2.1 b.2.2.2.2.2.2.2.2.1 b.2.2.2.2.2.2.2.2.2.1 b.2.2.2.2.2.2.2.2.2.2).2.2.2.2.2.2.2.2.2.2.2 with
  | false => rw [e] at h; cases h
  | true =>
    rw [e] at h
    simp only [cond_true, Option.some.injEq] at h
    exact ⟨rfl, h.symm⟩
/-- what makes two joinable, told the other way round -/
theorem joinV_of {a0 a1 a2 a3 a4 : Int} {a5 a6 a7 a8 : Bool} {a9 : List (den rng)} {a10 : List (den (.int .u8))} {b0 b1 b2 b3 b4 : Int} {b5 b6 b7 b8 : Bool} {b9 : List (den rng)} {b10 : List (den (.int .u8))} (h1 : okS a0 a1 a2 a3 a4 a5 a6 a7 a8 a9 a10 = true) (h2 : okS b0 b1 b2 b3 b4 b5 b6 b7 b8 b9 b10 = true) (h3 : a0 = b0 ∧ a1 = b1 ∧ a6 = b6 ∧ a3 = b3 ∧ a4 = b4 ∧ a9 = b9) (h4 : a8 = false ∧ b8 = false ∧ a7 = false ∧ b5 = false)
    (h5 : a10.length ≠ 0 ∧ b10.length ≠ 0) (h6 : b2 = seqOf (IntKind.i64.wrap (a2 + longS a5 a7 a10))) (h7 : IntKind.i64.wrap (((a10.length : Nat) : Int) + ((b10.length : Nat) : Int)) ≤ 12) :
    (joinV a0 a1 a2 a3 a4 a5 a6 a7 a8 a9 a10 b0 b1 b2 b3 b4 b5 b6 b7 b8 b9 b10).2.2.2.2.2.2.2.2.2.2.2 = true := by
  obtain ⟨rfl, rfl, rfl, rfl, rfl, rfl⟩ := h3
  obtain ⟨rfl, rfl, rfl, rfl⟩ := h4
  unfold joinV
  rw [h1, h2]
  have e1 : (((a10.length : Nat) : Int) == 0) = false := beq_eq_false_iff_ne.2 (by omega)
  have e2 : (((b10.length : Nat) : Int) == 0) = false := beq_eq_false_iff_ne.2 (by omega)
  have e3 : decide (IntKind.i64.wrap (((a10.length : Nat) : Int) + ((b10.length : Nat) : Int)) > 12) = false := decide_eq_false (by omega)
  rw [e1, e2, e3, ← h6]
  simp
theorem okS_len {a0 a1 a2 a3 a4 : Int} {a5 a6 a7 a8 : Bool} {a9 : List (den rng)} {a10 : List (den (.int .u8))} (h : okS a0 a1 a2 a3 a4 a5 a6 a7 a8 a9 a10 = true) : a10.length ≤ 12 := by
  unfold okS at h
  simp only [Bool.and_eq_true, Bool.not_eq_true', decide_eq_false_iff_not] at h
  omega
theorem okS_last {a0 a1 a2 a3 a4 : Int} {a5 a6 a7 a8 : Bool} {a9 : List (den rng)} {a10 : List (den (.int .u8))} (z : Bool) (y : u8L) (h : okS a0 a1 a2 a3 a4 a5 a6 a7 a8 a9 a10 = true) (h8 : a8 = false) (hy : y.length ≤ 12) : okS a0 a1 a2 a3 a4 a5 a6 z a8 a9 y = true := by
  subst h8
  unfold okS okT at h ⊢
  simp only [Bool.and_eq_true, Bool.not_eq_true', decide_eq_false_iff_not] at h ⊢
  obtain ⟨⟨⟨q, _⟩, _⟩, q3⟩ := h
  refine ⟨⟨⟨q, by omega⟩, by omega⟩, ?_⟩
  exact q3
theorem jn_ok {a b x : den seg} (h : jn a b = some x) : okD x = true ∧ lgD x = lgD a + lgD b := by
  obtain ⟨e, rfl⟩ := jn_some h
  obtain ⟨_, o1, o2, s1, ⟨t1, t2, t3, t4⟩, n1, _, l1⟩ := joinV_true e
  have l2 := okS_len o1
  have l3 := okS_len o2
  rw [i64_in _ (by omega)] at l1
  refine ⟨?_, ?_⟩
  · exact okS_last _ _ o1 t1 (by rw [List.length_append]; omega)
  · unfold lgD longS
    dsimp only
    rw [t3, t4, List.length_append]
    simp only [Bool.false_eq_true, if_false]
    omega
theorem jn_left {p s x q : den seg} (h : jn p s = some x) (hq : jn q p = none) : jn q x = none := by
  cases e : jn q x with
  | none => rfl
  | some y =>
    exfalso
    obtain ⟨c1, rfl⟩ := jn_some h
    obtain ⟨c2, _⟩ := jn_some e
    obtain ⟨_, o1, o2, s1, ⟨t1, t2, t3, t4⟩, n1, _, l1⟩ := joinV_true c1
    obtain ⟨_, u1, u2, v1, ⟨w1, w2, w3, w4⟩, m1, m2, m3⟩ := joinV_true c2
    have l2 := okS_len o1
    have l3 := okS_len u1
    have l4 := okS_len o2
    rw [List.length_append, i64_in _ (by omega)] at m3
    have := jn_none hq
    rw [joinV_of u1 o1 v1 ⟨w1, t1, w3, w4⟩ ⟨m1.1, n1.1⟩ m2 (by rw [i64_in _ (by omega)]; omega)] at this
    cases this
/-- no two neighbours can be joined -/
def NJ (l : sgL) : Prop := ∀ (j : Nat) (h : j + 1 < l.length), jn (l[j]'(by omega)) l[j + 1] = none
theorem NJ_snoc {d : sgL} {p s : den seg} (h : NJ (d ++ [p])) (hj : jn p s = none) : NJ (d ++ [p] ++ [s]) := by
  intro j hj'
  simp only [List.length_append, List.length_singleton] at hj'
  by_cases c : j + 1 < (d ++ [p]).length
  · rw [List.getElem_append_left (by omega), List.getElem_append_left c]
    exact h j c
  · have : j = d.length := by simp only [List.length_append, List.length_singleton] at c; omega
    subst this
    rw [List.getElem_append_left (by simp), List.getElem_append_right (by simp)]
    simpa using hj
theorem NJ_last {d : sgL} {p x : den seg} (h : NJ (d ++ [p])) (hx : ∀ q, jn q p = none → jn q x = none) : NJ (d ++ [x]) := by
  intro j hj'
  simp only [List.length_append, List.length_singleton] at hj'
  have hh := h j (by simp; omega)
  by_cases c : j + 1 < d.length
  · rw [List.getElem_append_left (by omega), List.getElem_append_left c] at hh ⊢
    exact hh
  · have : j + 1 = d.length := by omega
    rw [List.getElem_append_left (by omega), List.getElem_append_right (by omega)] at hh ⊢
    simp only [this, Nat.sub_self, List.getElem_cons_zero] at hh ⊢
    exact hx _ hh
theorem sumS_app {α : Type} (s : α → Int) (a b : List α) : sumS s (a ++ b) = sumS s a + sumS s b := by
  induction a with
  | nil => simp [sumS]
  | cons x a ih => simp only [List.cons_append, sumS, ih]; omega
theorem sumS_one {α : Type} (s : α → Int) (a : α) : sumS s [a] = s a := by simp [sumS]
theorem stJ_all {out : sgL} {s : den seg} (h : NJ out) (ho : ∀ x ∈ out, okD x = true) (hs : okD s = true) : NJ (stJ out s) ∧ (∀ x ∈ stJ out s, okD x = true) ∧ sumS lgD (stJ out s) = sumS lgD out + lgD s := by
  by_cases hne : out = []
  · subst hne
    refine ⟨fun j hj => by simp [stJ] at hj, fun x hx => ?_, by simp [stJ, sumS]⟩
    have : x = s := by simpa [stJ] using hx
    rw [this]
    exact hs
  · obtain ⟨d, p, rfl⟩ := snoc_of hne
    have e : stJ (d ++ [p]) s = (match jn p s with | some x => d ++ [x] | none => d ++ [p] ++ [s]) := by unfold stJ; simp
    rw [e]
    cases hj : jn p s with
    | none =>
      refine ⟨NJ_snoc h hj, fun x hx => ?_, by simp only [sumS_app, sumS_one]⟩
      rcases List.mem_append.1 hx with hx | hx
      · exact ho x hx
      · obtain rfl := List.mem_singleton.1 hx
        exact hs
    | some y =>
      obtain ⟨k1, k2⟩ := jn_ok hj
      refine ⟨NJ_last h (fun q hq => jn_left hj hq), fun x hx => ?_, by simp only [sumS_app, sumS_one]; omega⟩
      rcases List.mem_append.1 hx with hx | hx
      · exact ho x (List.mem_append_left _ hx)
      · obtain rfl := List.mem_singleton.1 hx
        exact k1
theorem foldJ_all : ∀ (l out : sgL), NJ out → (∀ x ∈ out, okD x = true) → (∀ x ∈ l, okD x = true) → NJ (l.foldl stJ out) ∧ (∀ x ∈ l.foldl stJ out, okD x = true) ∧ sumS lgD (l.foldl stJ out) = sumS lgD out + sumS lgD l
  | [], out, h, ho, _ => ⟨h, ho, by simp [sumS]⟩
  | a :: l, out, h, ho, hl => by
    obtain ⟨h1, h2, h3⟩ := stJ_all h ho (hl a (by simp))
    obtain ⟨h4, h5, h6⟩ := foldJ_all l (stJ out a) h1 h2 (fun x hx => hl x (by simp [hx]))
    refine ⟨h4, h5, ?_⟩
    rw [List.foldl_cons, h6, h3]
    simp only [sumS]
    omega
theorem foldJ_same : ∀ (l pre : sgL), NJ (pre ++ l) → l.foldl stJ pre = pre ++ l
  | [], pre, _ => by simp
  | a :: l, pre, h => by
    have e : stJ pre a = pre ++ [a] := by
      by_cases hne : pre = []
      · subst hne; rfl
      · obtain ⟨d, p, rfl⟩ := snoc_of hne
        have := h d.length (by simp)
        rw [List.getElem_append_left (by simp), List.getElem_append_right (by simp), List.getElem_append_right (by simp)] at this
        simp at this
        unfold stJ
        simp [this]
    rw [List.foldl_cons, e, foldJ_same l (pre ++ [a]) (by simpa using h)]
    simp
theorem joinAll_all (l : sgL) (h : l.all okD = true) : NJ (joinAll l) ∧ (∀ x ∈ joinAll l, okD x = true) ∧ sumS lgD (joinAll l) = sumS lgD l ∧ joinAll (joinAll l) = joinAll l := by
  have e : joinAll l = l.foldl stJ [] := by unfold joinAll; rw [h]; rfl
  obtain ⟨h1, h2, h3⟩ := foldJ_all l [] (fun j hj => by simp at hj) (by simp) (fun x hx => List.all_eq_true.1 h x hx)
  rw [e]
  refine ⟨h1, h2, by rw [h3]; simp [sumS], ?_⟩
  have e2 : (l.foldl stJ []).all okD = true := List.all_eq_true.2 h2
  unfold joinAll
  rw [e2, cond_true]
  have := foldJ_same (l.foldl stJ []) [] (by simpa using h1)
  simpa using this

theorem stJ_Sg {out : sgL} {s : den seg} (ho : ∀ x ∈ out, Sg x) (hs : Sg s) : ∀ x ∈ stJ out s, Sg x := by
  intro x hx
  refine ⟨(stJ_short (n := 14) (by decide) (by decide) (fun x hx => (ho x hx).1) hs.1).1 x hx, ?_⟩
  by_cases hne : out = []
  · subst hne
    have : x = s := by simpa [stJ] using hx
    rw [this]
    exact hs.2
  · obtain ⟨d, p, rfl⟩ := snoc_of hne
    have e : stJ (d ++ [p]) s = (match jn p s with | some x => d ++ [x] | none => d ++ [p] ++ [s]) := by unfold stJ; simp
    rw [e] at hx
    cases hj : jn p s with
    | none =>
      rw [hj] at hx
      rcases List.mem_append.1 hx with hx | hx
      · exact (ho x hx).2
      · obtain rfl := List.mem_singleton.1 hx
        exact hs.2
    | some y =>
      rw [hj] at hx
      rcases List.mem_append.1 hx with hx | hx
      · exact (ho x (List.mem_append_left _ hx)).2
      · obtain rfl := List.mem_singleton.1 hx
        obtain ⟨_, rfl⟩ := jn_some hj
        exact (ho p (by simp)).2
theorem foldJ_Sg : ∀ (l out : sgL), (∀ x ∈ out, Sg x) → (∀ x ∈ l, Sg x) → ∀ x ∈ l.foldl stJ out, Sg x
  | [], out, ho, _ => ho
  | a :: l, out, ho, hl => foldJ_Sg l (stJ out a) (stJ_Sg ho (hl a (by simp))) (fun x hx => hl x (by simp [hx]))
theorem joinAll_Sg (l : sgL) (hl : ∀ x ∈ l, Sg x) : ∀ x ∈ joinAll l, Sg x := by
  unfold joinAll
  cases l.all okD with
  | false => simp
  | true => exact foldJ_Sg l [] (by simp) hl

/-! ### the law -/
theorem lgD_in {s : den seg} (h : Sg s) : 0 ≤ lgD s ∧ lgD s ≤ 16 := by
  obtain ⟨⟨_, h⟩, _⟩ := h
  unfold lgD longS
  split <;> split <;> omega
theorem lgD_sum : ∀ (l : sgL), (∀ s ∈ l, Sg s) → 0 ≤ sumS lgD l ∧ sumS lgD l ≤ 16 * (l.length : Int)
  | [], _ => by simp [sumS]
  | a :: l, h => by
    have h1 := lgD_in (h a (by simp))
    have h2 := lgD_sum l (fun s hs => h s (by simp [hs]))
    simp only [sumS, List.length_cons]
    omega
/-! ### cut segments -/
def sqJ (a2 : Int) (a5 : Bool) (N j : Nat) : Int := if j = 0 then a2 else seqOf (a2 + ((j * N : Nat) : Int) + (if a5 then 1 else 0))
def pcJ (a0 a1 a2 a3 a4 : Int) (a5 a6 a7 a8 : Bool) (a9 : List (den rng)) (a10 : List (den (.int .u8))) (N j : Nat) : den seg := (a0, a1, sqJ a2 a5 N j, a3, a4, a5 && decide (j = 0), a6, a7 && decide (a10.length ≤ j * N + N), a8, a9, piece N a10 j)
def cnt (N len : Nat) : Nat := if len = 0 then 1 else (len + N - 1) / N
def cutV (a0 a1 a2 a3 a4 : Int) (a5 a6 a7 a8 : Bool) (a9 : List (den rng)) (a10 : List (den (.int .u8))) (N : Nat) : sgL := (List.range (cnt N a10.length)).map (pcJ a0 a1 a2 a3 a4 a5 a6 a7 a8 a9 a10 N)
theorem cnt_lt {N len j : Nat} (hN : 1 ≤ N) (h : j < cnt N len) : j = 0 ∨ j * N < len := by
  unfold cnt at h
  split at h
  · exact .inl (by omega)
  · right
    rw [Nat.lt_div_iff_mul_lt (by omega)] at h
    have : N * j = j * N := Nat.mul_comm _ _
    omega
theorem cnt_end {N len : Nat} (hN : 1 ≤ N) : 1 ≤ cnt N len ∧ len ≤ cnt N len * N := by
  unfold cnt
  split
  · exact ⟨Nat.le_refl _, by omega⟩
  · have h1 : 1 ≤ (len + N - 1) / N := by rw [Nat.le_div_iff_mul_le (by omega)]; omega
    refine ⟨h1, ?_⟩
    have h2 := Nat.div_add_mod (len + N - 1) N
    have h3 := Nat.mod_lt (len + N - 1) (show 0 < N by omega)
    rw [Nat.mul_comm] at h2
    omega
theorem cnt_bound {N len j : Nat} (hN : 1 ≤ N) (h : j ≤ cnt N len) : j * N ≤ len + N := by
  rcases Nat.eq_zero_or_pos j with rfl | hj
  · omega
  · obtain ⟨i, rfl⟩ : ∃ i, j = i + 1 := ⟨j - 1, by omega⟩
    rw [Nat.succ_mul]
    rcases cnt_lt hN (show i < cnt N len by omega) with rfl | h1
    · omega
    · omega
theorem cut_spec_l (k : Nat) (a0 a1 a2 a3 a4 : Int) (a5 a6 a7 a8 : Bool) (a9 : List (den rng)) (a10 : List (den (.int .u8))) (N : Nat) (h2 : 0 ≤ a2 ∧ a2 ≤ 65535) (h9 : a9.length ≤ 4194304) (h10 : a10.length ≤ 12) (hN1 : 1 ≤ N) (hN2 : N ≤ 12) : ∀ (n j : Nat), j ≤ cnt N a10.length → cnt N a10.length - j < n →
    F13_l0 k a0 a1 a2 a3 a4 a5 a6 a7 a8 a9 a10 (N : Int) n ((j * N : Nat) : Int) ((List.range j).map (pcJ a0 a1 a2 a3 a4 a5 a6 a7 a8 a9 a10 N)) = some (cutV a0 a1 a2 a3 a4 a5 a6 a7 a8 a9 a10 N)
  | 0, j, _, h => by omega
  | n + 1, j, hj, h => by
    have hb := cnt_bound hN1 hj
    have he := cnt_end (len := a10.length) hN1
    rw [F13_l0]
    unfold F13_l0_T
    have rec1 := cut_spec_l k a0 a1 a2 a3 a4 a5 a6 a7 a8 a9 a10 N h2 h9 h10 hN1 hN2 n (j + 1)
    rw [List.range_succ, List.map_append, List.map_singleton, Nat.succ_mul] at rec1
    have hlen : ((List.range j).map (pcJ a0 a1 a2 a3 a4 a5 a6 a7 a8 a9 a10 N)).length = j := by simp
    have hjN : j ≤ j * N := Nat.le_mul_of_pos_right j (by omega)
    have j1 : j < cnt N a10.length → (j = 0 ∨ j * N < a10.length) → F13_l0_j1 k a0 a1 a2 a3 a4 a5 a6 a7 a8 a9 a10 (N : Int) (fun x out => F13_l0 k a0 a1 a2 a3 a4 a5 a6 a7 a8 a9 a10 (N : Int) n x out) some ((j * N : Nat) : Int) ((List.range j).map (pcJ a0 a1 a2 a3 a4 a5 a6 a7 a8 a9 a10 N)) = some (cutV a0 a1 a2 a3 a4 a5 a6 a7 a8 a9 a10 N) := fun hlt hx => by
      have nx := rec1 (by omega) (by omega)
      have hx2 : j * N ≤ a10.length := by
        rcases hx with rfl | hx
        · omega
        · omega
      unfold F13_l0_j1 F13_l0_j2
      rw [F52_eq k a0 a1 a2 a3 a4 a5 a6 a7 a8 a9 a10 (by omega) (by omega), Option.bind_some, i64_in (((j * N : Nat) : Int) + (N : Int)) (by omega)]
      have hm : (if ((a10.length : Nat) : Int) < ((j * N : Nat) : Int) + (N : Int) then ((a10.length : Nat) : Int) else ((j * N : Nat) : Int) + (N : Int)) = ((j * N + min N (a10.length - j * N) : Nat) : Int) := by split <;> omega
      rw [hm, Int.toNat_natCast, Int.toNat_natCast, List.nil_append]
      have hw : (a10.take (j * N + min N (a10.length - j * N))).drop (j * N) = piece N a10 j := piece_win N a10 j
      have hpl := piece_len N a10 j
      rw [hw]
      have hL : (((j * N + min N (a10.length - j * N) : Nat) : Int) == ((a10.length : Nat) : Int)) = decide (a10.length ≤ j * N + N) := by
        by_cases c : a10.length ≤ j * N + N
        · rw [decide_eq_true c]; exact beq_iff_eq.2 (by omega)
        · rw [decide_eq_false c]; exact beq_eq_false_iff_ne.2 (by omega)
      rw [hL]
      rw [decide_eq_true (by omega : (0 : Int) ≤ ((j * N + min N (a10.length - j * N) : Nat) : Int)), decide_eq_true (by omega : ((j * N + min N (a10.length - j * N) : Nat) : Int) ≤ ((a10.length : Nat) : Int)), decide_eq_true (by omega : (0 : Int) ≤ ((j * N : Nat) : Int)), decide_eq_true (by omega : ((j * N : Nat) : Int) ≤ ((j * N + min N (a10.length - j * N) : Nat) : Int)),
        decide_eq_true (by simp only [List.length_nil]; omega : (([] : u8L).length + (piece N a10 j).length) * 1 ≤ 140737488355328)]
      simp only [Bool.and_self, cond_true, hlen, List.length_singleton]
      rw [decide_eq_true (by omega : (j + 1) * 96 ≤ 140737488355328)]
      simp only [cond_true]
      have hpc : ∀ (q : Int) (b : Bool), q = sqJ a2 a5 N j → b = (a5 && decide (j = 0)) → F13_l0 k a0 a1 a2 a3 a4 a5 a6 a7 a8 a9 a10 (N : Int) n (((j * N : Nat) : Int) + (N : Int)) ((List.range j).map (pcJ a0 a1 a2 a3 a4 a5 a6 a7 a8 a9 a10 N) ++ [(a0, a1, q, a3, a4, b, a6, a7 && decide (a10.length ≤ j * N + N), a8, a9, piece N a10 j)]) = some (cutV a0 a1 a2 a3 a4 a5 a6 a7 a8 a9 a10 N) := fun q b hq hb' => by
        subst hq hb'
        rw [← nx]
        congr 1
      rcases Nat.eq_zero_or_pos j with rfl | hj0
      · rw [decide_eq_false (by omega : ¬ (((0 * N : Nat) : Int) > 0))]
        simp only [cond_false]
        cases a7 with
        | true => exact hpc a2 a5 (by simp [sqJ]) (by simp)
        | false => exact hpc a2 a5 (by simp [sqJ]) (by simp)
      · have hpos : 0 < j * N := Nat.mul_pos hj0 (by omega)
        rw [decide_eq_true (by omega : (((j * N : Nat) : Int) > 0))]
        simp only [cond_true, F53_val, Option.bind_some]
        rw [i64_in (a2 + ((j * N : Nat) : Int)) (by omega), i64_in (a2 + ((j * N : Nat) : Int) + 1) (by omega)]
        have hj0' : ¬ j = 0 := by omega
        cases a5 with
        | true =>
          simp only [cond_true]
          cases a7 with
          | true => exact hpc _ false (by simp [sqJ, hj0']) (by simp [hj0'])
          | false => exact hpc _ false (by simp [sqJ, hj0']) (by simp [hj0'])
        | false =>
          simp only [cond_false]
          cases a7 with
          | true => exact hpc _ false (by simp [sqJ, hj0']) (by simp [hj0'])
          | false => exact hpc _ false (by simp [sqJ, hj0']) (by simp [hj0'])
    rcases Nat.lt_or_ge j (cnt N a10.length) with hlt | hge
    · rcases cnt_lt hN1 hlt with rfl | hx
      · refine (ct (by simp)).trans ?_
        exact j1 hlt (.inl rfl)
      · rcases Nat.eq_zero_or_pos j with h0 | hj0
        · subst h0
          refine (ct (by simp)).trans ?_
          exact j1 hlt (.inl rfl)
        · have hpos : 0 < j * N := Nat.mul_pos hj0 (by omega)
          refine (cf (beq_eq_false_iff_ne.2 (by omega))).trans ?_
          refine (ct (decide_eq_true (by omega))).trans ?_
          exact j1 hlt (.inr hx)
    · have hjc : j = cnt N a10.length := by omega
      have hpos : 0 < j * N := Nat.mul_pos (by omega) (by omega)
      refine (cf (beq_eq_false_iff_ne.2 (by omega))).trans ?_
      refine (cf (decide_eq_false (by rw [hjc]; omega))).trans ?_
      rw [hjc]
      rfl
/-- a piece without its last mark -/
def pcI (a0 a1 a2 a3 a4 : Int) (a5 a6 a7 a8 : Bool) (a9 : List (den rng)) (a10 : List (den (.int .u8))) (N j : Nat) : den seg := (a0, a1, sqJ a2 a5 N j, a3, a4, a5 && decide (j = 0), a6, false, a8, a9, piece N a10 j)
theorem seqOf_id {a : Int} (h : 0 ≤ a ∧ a ≤ 65535) : seqOf a = a := by
  unfold seqOf
  rw [Int.tmod_eq_of_lt h.1 (by omega), decide_eq_false (by omega), cond_false]
theorem cut_impl_l (k : Nat) (a0 a1 a2 a3 a4 : Int) (a5 a6 a7 a8 : Bool) (a9 : List (den rng)) (a10 : List (den (.int .u8))) (N : Nat) (h2 : 0 ≤ a2 ∧ a2 ≤ 65535) (h9 : a9.length ≤ 4194304) (h10 : a10.length ≤ 12) (hN1 : 1 ≤ N) (hN2 : N ≤ 12) (hgt : N < a10.length) : ∀ (d j : Nat) (p : Int), j + d = cnt N a10.length → (d ≠ 0 → p = a2 + ((j * N : Nat) : Int) + (if a5 = true ∧ j ≠ 0 then 1 else 0)) →
    F11_l0 k a0 a1 a2 a3 a4 a5 a6 a7 a8 a9 a10 (N : Int) ((pieces N a10).drop j) ((List.range j).map (pcI a0 a1 a2 a3 a4 a5 a6 a7 a8 a9 a10 N)) p = some (cutV a0 a1 a2 a3 a4 a5 a6 a7 a8 a9 a10 N)
  | 0, j, p, hj, _ => by
    have he := cnt_end (len := a10.length) hN1
    have hc : cnt N a10.length = (a10.length + N - 1) / N := by unfold cnt; rw [if_neg (by omega)]
    rw [Nat.add_zero] at hj
    have hb := cnt_bound hN1 (show j ≤ cnt N a10.length by omega)
    have hjN : j ≤ j * N := Nat.le_mul_of_pos_right j (by omega)
    rw [show (pieces N a10).drop j = [] by rw [hj, hc]; exact pieces_end N a10, F11_l0]
    have hlen : ((List.range j).map (pcI a0 a1 a2 a3 a4 a5 a6 a7 a8 a9 a10 N)).length = j := by simp
    obtain ⟨i, rfl⟩ : ∃ i, j = i + 1 := ⟨j - 1, by omega⟩
    rw [hlen, i64_in (((i + 1 : Nat) : Int) - 1) (by omega)]
    have e1 : ((i + 1 : Nat) : Int) - 1 = (i : Int) := by omega
    rw [e1, decide_eq_true (by omega : (0 : Int) ≤ (i : Int)), decide_eq_true (by omega : (i : Int) < ((i + 1 : Nat) : Int))]
    simp only [cond_true]
    have hat : atI ((List.range (i + 1)).map (pcI a0 a1 a2 a3 a4 a5 a6 a7 a8 a9 a10 N)) (i : Int) = pcI a0 a1 a2 a3 a4 a5 a6 a7 a8 a9 a10 N i := by
      rw [atI_get _ i (by simp)]
      simp
    rw [hat, Int.toNat_natCast]
    simp only [sto, Option.bind_some, F49_eq]
    congr 1
    unfold cutV
    rw [← hj]
    rw [List.range_succ, List.map_append, List.map_append, List.map_singleton, List.map_singleton]
    rw [List.set_append_right _ _ (by simp)]
    simp only [List.length_map, List.length_range, Nat.sub_self, List.set_cons_zero]
    congr 1
    · refine List.map_congr_left fun q hq => ?_
      have hq := List.mem_range.1 hq
      have h5 : (q + 1) * N < a10.length := by
        rcases cnt_lt hN1 (show q + 1 < cnt N a10.length by omega) with h6 | h6
        · omega
        · exact h6
      rw [Nat.succ_mul] at h5
      simp only [pcI, pcJ]
      rw [decide_eq_false (by omega : ¬ a10.length ≤ q * N + N), Bool.and_false]
    · have h5 : a10.length ≤ i * N + N := by
        have := he.2
        rw [← hj, Nat.succ_mul] at this
        exact this
      simp only [pcI, pcJ]
      rw [decide_eq_true h5, Bool.and_true]
  | d + 1, j, p, hj, hp => by
    have he := cnt_end (len := a10.length) hN1
    have hb := cnt_bound hN1 (show j ≤ cnt N a10.length by omega)
    have hjN : j ≤ j * N := Nat.le_mul_of_pos_right j (by omega)
    have hx : j * N < a10.length := by
      rcases cnt_lt hN1 (show j < cnt N a10.length by omega) with rfl | h6
      · omega
      · exact h6
    have hp := hp (by omega)
    have rec1 := cut_impl_l k a0 a1 a2 a3 a4 a5 a6 a7 a8 a9 a10 N h2 h9 h10 hN1 hN2 hgt d (j + 1)
    rw [List.range_succ, List.map_append, List.map_singleton, Nat.succ_mul] at rec1
    have hlen : ((List.range j).map (pcI a0 a1 a2 a3 a4 a5 a6 a7 a8 a9 a10 N)).length = j := by simp
    have hpl := piece_len N a10 j
    rw [pieces_drop hN1 a10 j hx, F11_l0]
    have hps : -9223372036854775808 ≤ p ∧ p ≤ 9223372036854775807 := by rw [hp]; split <;> omega
    have hsq : seqOf p = sqJ a2 a5 N j := by
      rw [hp]
      unfold sqJ
      rcases Nat.eq_zero_or_pos j with rfl | hj0
      · simp [seqOf_id h2]
      · have hj0' : ¬ j = 0 := by omega
        rw [if_neg hj0']
        cases a5 <;> simp [hj0']
    rw [F48_val k p hps, hsq]
    simp only [Option.bind_some, hlen]
    have h0 : (((j : Nat) : Int) == 0) = decide (j = 0) := by
      by_cases c : j = 0
      · subst c; rfl
      · rw [decide_eq_false c]; exact beq_eq_false_iff_ne.2 (by omega)
    rw [h0]
    have fin : ∀ (b : Bool) (q : Int), b = (a5 && decide (j = 0)) → q = p + longS b false (piece N a10 j) →
        F11_l0 k a0 a1 a2 a3 a4 a5 a6 a7 a8 a9 a10 (N : Int) ((pieces N a10).drop (j + 1)) ((List.range j).map (pcI a0 a1 a2 a3 a4 a5 a6 a7 a8 a9 a10 N) ++ [(a0, a1, sqJ a2 a5 N j, a3, a4, b, a6, false, a8, a9, piece N a10 j)]) q = some (cutV a0 a1 a2 a3 a4 a5 a6 a7 a8 a9 a10 N) := fun b q hb' hq => by
      subst hb'
      refine rec1 q (by omega) fun hd => ?_
      have hfull : (piece N a10 j).length = N := by
        have h5 : (j + 1) * N < a10.length := by
          rcases cnt_lt hN1 (show j + 1 < cnt N a10.length by omega) with h6 | h6
          · omega
          · exact h6
        rw [Nat.succ_mul] at h5
        omega
      rw [hq, hp]
      unfold longS
      rw [hfull]
      rcases Nat.eq_zero_or_pos j with rfl | hj0
      · cases a5 <;> simp <;> omega
      · have hj0' : ¬ j = 0 := by omega
        cases a5 <;> simp [hj0'] <;> omega
    have hpn : ∀ b, -9223372036854775808 ≤ p + longS b false (piece N a10 j) ∧ p + longS b false (piece N a10 j) ≤ 9223372036854775807 := fun b => by
      unfold longS
      rw [hp]
      split <;> split <;> simp <;> omega
    cases a5 with
    | true =>
      simp only [cond_true]
      rw [F16_eq k a0 a1 (sqJ a2 true N j) a3 a4 (decide (j = 0)) a6 false a8 a9 (piece N a10 j) (by omega), F46_eq k a0 a1 (sqJ a2 true N j) a3 a4 (decide (j = 0)) a6 false a8 a9 (piece N a10 j) (by omega) (by omega)]
      simp only [Option.bind_some, List.length_singleton]
      rw [decide_eq_true (by omega : (j + 1) * 96 ≤ 140737488355328), i64_in _ (hpn _)]
      exact fin _ _ (by simp) rfl
    | false =>
      simp only [cond_false]
      rw [F16_eq k a0 a1 (sqJ a2 false N j) a3 a4 false a6 false a8 a9 (piece N a10 j) (by omega), F46_eq k a0 a1 (sqJ a2 false N j) a3 a4 false a6 false a8 a9 (piece N a10 j) (by omega) (by omega)]
      simp only [Option.bind_some, List.length_singleton]
      rw [decide_eq_true (by omega : (j + 1) * 96 ≤ 140737488355328), i64_in _ (hpn _)]
      exact fin _ _ (by simp) rfl
/-- what both answer -/
def cutR (a0 a1 a2 a3 a4 : Int) (a5 a6 a7 a8 : Bool) (a9 : List (den rng)) (a10 : List (den (.int .u8))) (lim : Int) : sgL := cond (okS a0 a1 a2 a3 a4 a5 a6 a7 a8 a9 a10 && inB lim 1 12) (cutV a0 a1 a2 a3 a4 a5 a6 a7 a8 a9 a10 lim.toNat) []
theorem okS_in {a0 a1 a2 a3 a4 : Int} {a5 a6 a7 a8 : Bool} {a9 : List (den rng)} {a10 : List (den (.int .u8))} (h : okS a0 a1 a2 a3 a4 a5 a6 a7 a8 a9 a10 = true) : (0 ≤ a2 ∧ a2 ≤ 65535) ∧ a9.length ≤ 2 ∧ a10.length ≤ 12 := by
  unfold okS inB at h
  simp only [Bool.and_eq_true, Bool.not_eq_true', decide_eq_false_iff_not, decide_eq_true_eq] at h
  omega
theorem F13_eq (k : Nat) (a0 a1 a2 a3 a4 : Int) (a5 a6 a7 a8 : Bool) (a9 : List (den rng)) (a10 : List (den (.int .u8))) (lim : Int) (h9 : a9.length ≤ 1048576) (hk : 1048576 < k) : F13 k a0 a1 a2 a3 a4 a5 a6 a7 a8 a9 a10 lim = some (cutR a0 a1 a2 a3 a4 a5 a6 a7 a8 a9 a10 lim) := by
  unfold F13 F13_T cutR
  rw [F50_eq k a0 a1 a2 a3 a4 a5 a6 a7 a8 a9 a10 h9 (by omega), F51_eq]
  simp only [Option.bind_some]
  cases ho : okS a0 a1 a2 a3 a4 a5 a6 a7 a8 a9 a10 with
  | false => rfl
  | true =>
    cases hi : inB lim 1 12 with
    | false => rfl
    | true =>
      have hl : 1 ≤ lim ∧ lim ≤ 12 := by simpa [inB] using hi
      obtain ⟨q2, q9, q10⟩ := okS_in ho
      obtain ⟨N, rfl⟩ := Int.eq_ofNat_of_zero_le (show 0 ≤ lim by omega)
      have hcb := cnt_bound (N := N) (len := a10.length) (j := cnt N a10.length) (by omega) (Nat.le_refl _)
      have hcn : cnt N a10.length ≤ cnt N a10.length * N := Nat.le_mul_of_pos_right _ (by omega)
      have := cut_spec_l k a0 a1 a2 a3 a4 a5 a6 a7 a8 a9 a10 N q2 (by omega) q10 (by omega) (by omega) k 0 (Nat.zero_le _) (by omega)
      rw [Nat.zero_mul] at this
      exact this
theorem F11_eq (k : Nat) (a0 a1 a2 a3 a4 : Int) (a5 a6 a7 a8 : Bool) (a9 : List (den rng)) (a10 : List (den (.int .u8))) (lim : Int) (h9 : a9.length ≤ 1048576) (hk : 1048576 < k) : F11 k a0 a1 a2 a3 a4 a5 a6 a7 a8 a9 a10 lim = some (cutR a0 a1 a2 a3 a4 a5 a6 a7 a8 a9 a10 lim) := by
  unfold F11 cutR
  rw [F14_eq k a0 a1 a2 a3 a4 a5 a6 a7 a8 a9 a10 h9 (by omega), F45_eq]
  simp only [Option.bind_some]
  cases ho : okS a0 a1 a2 a3 a4 a5 a6 a7 a8 a9 a10 with
  | false => rfl
  | true =>
    cases hi : inB lim 1 12 with
    | false => rfl
    | true =>
      have hl : 1 ≤ lim ∧ lim ≤ 12 := by simpa [inB] using hi
      obtain ⟨q2, q9, q10⟩ := okS_in ho
      obtain ⟨N, rfl⟩ := Int.eq_ofNat_of_zero_le (show 0 ≤ lim by omega)
      simp only [Bool.not_true, cond_false, Bool.and_self, cond_true, Int.toNat_natCast]
      by_cases hle : a10.length ≤ N
      · rw [decide_eq_true (by omega : ((a10.length : Nat) : Int) ≤ (N : Int)), F46_eq k a0 a1 a2 a3 a4 a5 a6 a7 a8 a9 a10 (by omega) (by omega)]
        have hc1 : cnt N a10.length = 1 := by
          have hb := cnt_bound (N := N) (len := a10.length) (j := cnt N a10.length) (by omega) (Nat.le_refl _)
          have h1 := (cnt_end (N := N) (len := a10.length) (by omega)).1
          rcases Nat.lt_or_ge 1 (cnt N a10.length) with h2 | h2
          · rcases cnt_lt (show 1 ≤ N by omega) h2 with h3 | h3 <;> omega
          · omega
        simp only [cond_true, Option.bind_some, cutV, hc1]
        simp only [List.range_succ, List.range_zero, List.nil_append, List.map_singleton, pcJ, sqJ, piece]
        rw [decide_eq_true (by omega : a10.length ≤ 0 * N + N)]
        simp [List.take_of_length_le hle]
      · rw [decide_eq_false (by omega : ¬ ((a10.length : Nat) : Int) ≤ (N : Int)), decide_eq_true (by omega : 1 ≤ (N : Int)), decide_eq_true (by omega : (N : Int) ≤ 9223372036854775807), decide_eq_true (by omega : a10.length ≤ 140737488355328)]
        simp only [cond_false, Bool.and_self, cond_true]
        have := cut_impl_l k a0 a1 a2 a3 a4 a5 a6 a7 a8 a9 a10 N q2 (by omega) q10 (by omega) (by omega) (by omega) (cnt N a10.length) 0 a2 (by omega) (fun _ => by simp)
        simpa using this
theorem cutR_short (a0 a1 a2 a3 a4 : Int) (a5 a6 a7 a8 : Bool) (a9 : List (den rng)) (a10 : List (den (.int .u8))) (lim : Int) : (cutR a0 a1 a2 a3 a4 a5 a6 a7 a8 a9 a10 lim).length ≤ 24 ∧ ∀ s ∈ cutR a0 a1 a2 a3 a4 a5 a6 a7 a8 a9 a10 lim, shortS 12 s := by
  unfold cutR
  cases ho : okS a0 a1 a2 a3 a4 a5 a6 a7 a8 a9 a10 with
  | false => exact ⟨by simp, by simp⟩
  | true =>
    cases hi : inB lim 1 12 with
    | false => exact ⟨by simp, by simp⟩
    | true =>
      have hl : 1 ≤ lim ∧ lim ≤ 12 := by simpa [inB] using hi
      obtain ⟨q2, q9, q10⟩ := okS_in ho
      obtain ⟨N, rfl⟩ := Int.eq_ofNat_of_zero_le (show 0 ≤ lim by omega)
      simp only [Bool.and_self, cond_true, Int.toNat_natCast, cutV]
      have hcb := cnt_bound (N := N) (len := a10.length) (j := cnt N a10.length) (by omega) (Nat.le_refl _)
      have hcn : cnt N a10.length ≤ cnt N a10.length * N := Nat.le_mul_of_pos_right _ (by omega)
      refine ⟨by simp only [List.length_map, List.length_range]; omega, fun s hs => ?_⟩
      obtain ⟨j, hj, rfl⟩ := List.mem_map.1 hs
      have hpl := piece_len N a10 j
      exact ⟨by simp only [pcJ]; omega, by simp only [pcJ]; omega⟩

/-! ### pieces of a segment -/
theorem okS_mod {a0 a1 a2 a3 a4 : Int} {a5 a6 a7 a8 : Bool} {a9 : List (den rng)} {a10 : List (den (.int .u8))} (q : Int) (f z : Bool) (y : u8L) (h : okS a0 a1 a2 a3 a4 a5 a6 a7 a8 a9 a10 = true) (h8 : a8 = false) (hq : 0 ≤ q ∧ q ≤ 65535) (hy : y.length ≤ 12) : okS a0 a1 q a3 a4 f a6 z a8 a9 y = true := by
  subst h8
  unfold okS okT inB at h ⊢
  simp only [Bool.and_eq_true, Bool.not_eq_true', decide_eq_false_iff_not, decide_eq_true_eq] at h ⊢
  obtain ⟨⟨⟨⟨⟨⟨⟨q0, q1⟩, _⟩, q3⟩, q4⟩, q5⟩, _⟩, q7⟩ := h
  exact ⟨⟨⟨⟨⟨⟨⟨q0, q1⟩, hq⟩, q3⟩, q4⟩, q5⟩, by omega⟩, q7⟩
theorem okS_reset {a0 a1 a2 a3 a4 : Int} {a5 a6 a7 a8 : Bool} {a9 : List (den rng)} {a10 : List (den (.int .u8))} (h : okS a0 a1 a2 a3 a4 a5 a6 a7 a8 a9 a10 = true) (h8 : a8 = true) : a5 = false ∧ a7 = false ∧ a10.length = 0 := by
  subst h8
  unfold okS okT at h
  simp only [Bool.and_eq_true] at h
  obtain ⟨_, _, h⟩ := h
  cases a6 with
  | true =>
    cases a5 with
    | true => simp at h
    | false =>
      cases a7 with
      | true => simp at h
      | false => exact ⟨rfl, rfl, by simpa using h⟩
  | false =>
    simp only [Bool.not_false, cond_true] at h
    obtain ⟨_, h⟩ := cond_z (f := fun b : Bool => b) rfl h
    obtain ⟨_, h⟩ := cond_z (f := fun b : Bool => b) rfl h
    obtain ⟨_, h⟩ := cond_z (f := fun b : Bool => b) rfl h
    cases a5 with
    | true => simp at h
    | false =>
      cases a7 with
      | true => simp at h
      | false => exact ⟨rfl, rfl, by simpa using h⟩
theorem seqOf_pos {a : Int} (h : 0 ≤ a) : 0 ≤ seqOf a ∧ seqOf a ≤ 65535 := by
  unfold seqOf
  have h1 := Int.tmod_nonneg 65536 h
  have h2 := Int.tmod_lt_of_pos a (show (0 : Int) < 65536 by omega)
  rw [decide_eq_false (by omega), cond_false]
  omega
theorem pcJ_zero (a0 a1 a2 a3 a4 : Int) (a5 a6 a7 a8 : Bool) (a9 : List (den rng)) (a10 : List (den (.int .u8))) (N : Nat) (h : a10.length ≤ N) : pcJ a0 a1 a2 a3 a4 a5 a6 a7 a8 a9 a10 N 0 = (a0, a1, a2, a3, a4, a5, a6, a7, a8, a9, a10) := by
  simp only [pcJ, sqJ, piece]
  rw [decide_eq_true (by omega : a10.length ≤ 0 * N + N)]
  simp [List.take_of_length_le h]
theorem pcJ_ok (a0 a1 a2 a3 a4 : Int) (a5 a6 a7 a8 : Bool) (a9 : List (den rng)) (a10 : List (den (.int .u8))) (N j : Nat) (hN : 1 ≤ N ∧ N ≤ 12) (h : okS a0 a1 a2 a3 a4 a5 a6 a7 a8 a9 a10 = true) (hj : j < cnt N a10.length) : okD (pcJ a0 a1 a2 a3 a4 a5 a6 a7 a8 a9 a10 N j) = true := by
  obtain ⟨q2, q9, q10⟩ := okS_in h
  cases h8 : a8 with
  | true =>
    obtain ⟨_, _, h0⟩ := okS_reset h h8
    have : j = 0 := by unfold cnt at hj; rw [if_pos h0] at hj; omega
    subst this
    rw [pcJ_zero a0 a1 a2 a3 a4 a5 a6 a7 true a9 a10 N (by omega)]
    rw [h8] at h
    exact h
  | false =>
    have hpl := piece_len N a10 j
    have := okS_mod (sqJ a2 a5 N j) (a5 && decide (j = 0)) (a7 && decide (a10.length ≤ j * N + N)) (piece N a10 j) h h8 (by
      unfold sqJ
      split
      · exact q2
      · refine seqOf_pos ?_
        split <;> omega) (by omega)
    rw [h8] at this
    exact this
/-- the first pieces, joined -/
def sJ (a0 a1 a2 a3 a4 : Int) (a5 a6 a7 a8 : Bool) (a9 : List (den rng)) (a10 : List (den (.int .u8))) (N j : Nat) : den seg := (a0, a1, a2, a3, a4, a5, a6, a7 && decide (a10.length ≤ j * N), a8, a9, a10.take (j * N))
theorem sJ_end (a0 a1 a2 a3 a4 : Int) (a5 a6 a7 a8 : Bool) (a9 : List (den rng)) (a10 : List (den (.int .u8))) (N j : Nat) (h : a10.length ≤ j * N) : sJ a0 a1 a2 a3 a4 a5 a6 a7 a8 a9 a10 N j = (a0, a1, a2, a3, a4, a5, a6, a7, a8, a9, a10) := by
  simp only [sJ]
  rw [decide_eq_true h, Bool.and_true, List.take_of_length_le h]
theorem jn_sJ (a0 a1 a2 a3 a4 : Int) (a5 a6 a7 a8 : Bool) (a9 : List (den rng)) (a10 : List (den (.int .u8))) (N j : Nat) (hN : 1 ≤ N ∧ N ≤ 12) (h : okS a0 a1 a2 a3 a4 a5 a6 a7 a8 a9 a10 = true) (h0 : j ≠ 0) (hx : j * N < a10.length) : jn (sJ a0 a1 a2 a3 a4 a5 a6 a7 a8 a9 a10 N j) (pcJ a0 a1 a2 a3 a4 a5 a6 a7 a8 a9 a10 N j) = some (sJ a0 a1 a2 a3 a4 a5 a6 a7 a8 a9 a10 N (j + 1)) := by
  obtain ⟨q2, q9, q10⟩ := okS_in h
  have hpos : 0 < j * N := Nat.mul_pos (by omega) (by omega)
  have h8 : a8 = false := by
    cases h8 : a8 with
    | false => rfl
    | true => have := (okS_reset h h8).2.2; omega
  have hpl := piece_len N a10 j
  have htl : (a10.take (j * N)).length = j * N := by rw [List.length_take]; omega
  have o1 : okS a0 a1 a2 a3 a4 a5 a6 (a7 && decide (a10.length ≤ j * N)) a8 a9 (a10.take (j * N)) = true := okS_mod _ _ _ _ h h8 q2 (by omega)
  have o2 : okS a0 a1 (sqJ a2 a5 N j) a3 a4 (a5 && decide (j = 0)) a6 (a7 && decide (a10.length ≤ j * N + N)) a8 a9 (piece N a10 j) = true := okS_mod _ _ _ _ h h8 (by
      unfold sqJ
      rw [if_neg h0]
      refine seqOf_pos ?_
      split <;> omega) (by omega)
  have hl : (a7 && decide (a10.length ≤ j * N)) = false := by rw [decide_eq_false (by omega), Bool.and_false]
  have hf : (a5 && decide (j = 0)) = false := by rw [decide_eq_false h0, Bool.and_false]
  have flag := joinV_of o1 o2 ⟨rfl, rfl, rfl, rfl, rfl, rfl⟩ ⟨h8, h8, hl, hf⟩ ⟨by omega, by omega⟩ (by
    unfold sqJ longS
    rw [if_neg h0, hl, htl]
    have : -9223372036854775808 ≤ a2 + ((((j * N : Nat) : Int)) + (if a5 = true then 1 else 0) + (if false = true then 1 else 0)) ∧ a2 + ((((j * N : Nat) : Int)) + (if a5 = true then 1 else 0) + (if false = true then 1 else 0)) ≤ 9223372036854775807 := by split <;> simp <;> omega
    rw [i64_in _ this]
    congr 1
    simp
    omega) (by rw [i64_in _ (by omega)]; omega)
  unfold jn
  have e : ∀ p q : den seg, p = sJ a0 a1 a2 a3 a4 a5 a6 a7 a8 a9 a10 N j → q = pcJ a0 a1 a2 a3 a4 a5 a6 a7 a8 a9 a10 N j → (joinV p.1 p.2.1 p.2.2.1 p.2.2.2.1 p.2.2.2.2.1 p.2.2.2.2.2.1 p.2.2.2.2.2.2.1 p.2.2.2.2.2.2.2.1 p.2.2.2.2.2.2.2.2.1 p.2.2.2.2.2.2.2.2.2.1 p.2.2.2.2.2.2.2.2.2.2 q.1 q.2.1 q.2.2.1 q.2.2.2.1 q.2.2.2.2.1 q.2.2.2.2.2.1 q.2.2.2.2.2.2.1 q.2.2.2.2.2.2.2.1 q.2.2.2.2.2.2.2.2.1 q.2.2.2.2.2.2.2.2.2.1 q.2.2.2.2.2.2.2.2.2.2).2.2.2.2.2.2.2.2.2.2.2 = true := by
    rintro p q rfl rfl
    exact flag
  rw [e _ _ rfl rfl]
  simp only [cond_true, sJ, pcJ]
  have ht : a10.take (j * N) ++ piece N a10 j = a10.take ((j + 1) * N) := by
    unfold piece
    rw [Nat.succ_mul, List.take_add]
  rw [ht, Nat.succ_mul]
theorem fold_sJ (a0 a1 a2 a3 a4 : Int) (a5 a6 a7 a8 : Bool) (a9 : List (den rng)) (a10 : List (den (.int .u8))) (N : Nat) (hN : 1 ≤ N ∧ N ≤ 12) (h : okS a0 a1 a2 a3 a4 a5 a6 a7 a8 a9 a10 = true) : ∀ (j : Nat), j + 1 ≤ cnt N a10.length → ((List.range (j + 1)).map (pcJ a0 a1 a2 a3 a4 a5 a6 a7 a8 a9 a10 N)).foldl stJ [] = [sJ a0 a1 a2 a3 a4 a5 a6 a7 a8 a9 a10 N (j + 1)]
  | 0, hj => by
    simp only [List.range_succ, List.range_zero, List.nil_append, List.map_singleton, List.foldl_cons, List.foldl_nil, stJ, List.getLast?_nil]
    simp only [pcJ, sJ, sqJ, piece]
    rw [Nat.zero_mul, Nat.zero_add, Nat.zero_add, Nat.one_mul]
    simp
  | j + 1, hj => by
    have ih := fold_sJ a0 a1 a2 a3 a4 a5 a6 a7 a8 a9 a10 N hN h j (by omega)
    have hx : (j + 1) * N < a10.length := by
      rcases cnt_lt hN.1 (show j + 1 < cnt N a10.length by omega) with h1 | h1
      · omega
      · exact h1
    rw [List.range_succ, List.map_append, List.foldl_append, ih]
    simp only [List.map_singleton, List.foldl_cons, List.foldl_nil, stJ, List.getLast?_singleton]
    rw [jn_sJ a0 a1 a2 a3 a4 a5 a6 a7 a8 a9 a10 N (j + 1) hN h (by omega) hx]
    rfl
theorem join_cut (a0 a1 a2 a3 a4 : Int) (a5 a6 a7 a8 : Bool) (a9 : List (den rng)) (a10 : List (den (.int .u8))) (N : Nat) (hN : 1 ≤ N ∧ N ≤ 12) (h : okS a0 a1 a2 a3 a4 a5 a6 a7 a8 a9 a10 = true) : joinAll (cutV a0 a1 a2 a3 a4 a5 a6 a7 a8 a9 a10 N) = [(a0, a1, a2, a3, a4, a5, a6, a7, a8, a9, a10)] := by
  have he := cnt_end (len := a10.length) hN.1
  obtain ⟨j, hj⟩ : ∃ j, cnt N a10.length = j + 1 := ⟨cnt N a10.length - 1, by omega⟩
  have hall : (cutV a0 a1 a2 a3 a4 a5 a6 a7 a8 a9 a10 N).all okD = true := List.all_eq_true.2 fun x hx => by
    obtain ⟨i, hi, rfl⟩ := List.mem_map.1 hx
    exact pcJ_ok a0 a1 a2 a3 a4 a5 a6 a7 a8 a9 a10 N i hN h (List.mem_range.1 hi)
  unfold joinAll
  rw [hall, cond_true]
  unfold cutV
  rw [hj, fold_sJ a0 a1 a2 a3 a4 a5 a6 a7 a8 a9 a10 N hN h j (by omega), sJ_end a0 a1 a2 a3 a4 a5 a6 a7 a8 a9 a10 N (j + 1) (by rw [← hj]; exact he.2)]
theorem sum_cut (a0 a1 a2 a3 a4 : Int) (a5 a6 a7 a8 : Bool) (a9 : List (den rng)) (a10 : List (den (.int .u8))) (N : Nat) (hN : 1 ≤ N ∧ N ≤ 12) (h : okS a0 a1 a2 a3 a4 a5 a6 a7 a8 a9 a10 = true) : sumS lgD (cutV a0 a1 a2 a3 a4 a5 a6 a7 a8 a9 a10 N) = longS a5 a7 a10 := by
  have hall : ∀ x ∈ cutV a0 a1 a2 a3 a4 a5 a6 a7 a8 a9 a10 N, okD x = true := fun x hx => by
    obtain ⟨i, hi, rfl⟩ := List.mem_map.1 hx
    exact pcJ_ok a0 a1 a2 a3 a4 a5 a6 a7 a8 a9 a10 N i hN h (List.mem_range.1 hi)
  have hh := joinAll_all (cutV a0 a1 a2 a3 a4 a5 a6 a7 a8 a9 a10 N) (List.all_eq_true.2 hall)
  rw [join_cut a0 a1 a2 a3 a4 a5 a6 a7 a8 a9 a10 N hN h] at hh
  rw [← hh.2.2.1, sumS_one]
  rfl

/-! ### the law -/
abbrev R22 : Type := Int × Int × Int × Int × Int × Bool × Bool × Bool × Bool × rgL × u8L × Int × Int × Int × Int × Int × Bool × Bool × Bool × Bool × rgL × u8L
def S22 (r : R22) : Prop := (-9223372036854775808 ≤ r.2.2.1 ∧ r.2.2.1 ≤ 9223372036854775807) ∧ r.2.2.2.2.2.2.2.2.2.1.length ≤ 14 ∧ r.2.2.2.2.2.2.2.2.2.2.1.length ≤ 14 ∧
  r.2.2.2.2.2.2.2.2.2.2.2.2.2.2.2.2.2.2.2.2.1.length ≤ 14 ∧ r.2.2.2.2.2.2.2.2.2.2.2.2.2.2.2.2.2.2.2.2.2.length ≤ 14
theorem two_j1 (k : Nat) (hk : 100 < k) (a0 : u8L) {b : u8L} (hb : BOk b) (hl : b.length ≤ 2000) (y q : Int) (hq : 0 ≤ q ∧ q ≤ 5000) (l : sgL) (hs : ∀ s ∈ l, Sg s) (h1 : 1 < l.length) (h30 : l.length ≤ 30) : Sm (F19_j1 k a0 some (y, b, q) l) S22 := by
  unfold F19_j1
  rw [i64_in (((l.length : Nat) : Int) - 1) (by omega)]
  refine pk k hb hl (by dsimp only; omega) (by dsimp only; omega) (by omega) fun x x0 x1 => ?_
  dsimp only
  rw [i64_in (x + 1) (by omega)]
  have m1 := hs _ (atI_mem (l := l) (i := x + 1) (by omega) (by omega))
  have m0 := hs _ (atI_mem (l := l) (i := x) (by omega) (by omega))
  refine Sm.ct (decide_eq_true (by omega)) (Sm.ct (decide_eq_true (by omega)) ?_)
  refine pk k hb hl (by omega) (by omega) (by omega) fun z _ _ => ?_
  dsimp only
  refine Sm.cond (fun _ => ?_) (fun _ => ?_)
  · rw [F53_val, Option.bind_some]
    refine Sm.ct (decide_eq_true (by omega)) (Sm.ct (decide_eq_true (by omega)) ?_)
    exact ⟨_, rfl, m0.2, m0.1.1, m0.1.2, m1.1.1, m1.1.2⟩
  · refine Sm.cond (fun _ => ?_) (fun _ => ?_)
    · rw [F53_val, Option.bind_some]
      refine Sm.ct (decide_eq_true (by omega)) (Sm.ct (decide_eq_true (by omega)) ?_)
      exact ⟨_, rfl, m0.2, m0.1.1, m0.1.2, m1.1.1, m1.1.2⟩
    · refine Sm.ct (decide_eq_true (by omega)) (Sm.ct (decide_eq_true (by omega)) ?_)
      exact ⟨_, rfl, m0.2, m0.1.1, m0.1.2, m1.1.1, m1.1.2⟩
theorem two_ok (k : Nat) (hk : 100 < k) (a0 : u8L) (hb : BOk a0) : Sm (F19 k a0) S22 := by
  unfold F19 F19_T
  obtain ⟨b, e, hb', hl⟩ := open_ok k a0 hb
  rw [e, Option.bind_some]
  dsimp only
  refine Sm.bind (seg_ok k hk hb' hl 0 0 (by omega) (by omega)) fun r hr => ?_
  obtain ⟨r0, r1, r2, r3, r4, r5, r6, r7, r8, r9, r10, r11, r12⟩ := r
  obtain ⟨q1, q2, q3, q4, q5, q6⟩ := hr
  dsimp only at q1 q2 q3 q4 q5 q6
  subst q4
  dsimp only
  have j2 : ∀ (y q : Int) (d c : u8L) (z : Int), 0 ≤ q → q ≤ 5000 → d.length ≤ 14 → Sm (F19_j2 k a0 some (y, r11, q) (r0, r1, r2, r3, r4, r5, r6, r7, r8, r9, r10, r11, r12) (d, c, z)) S22 := fun y q d c z h1 h2 h3 => by
    unfold F19_j2
    refine Sm.bind (seg_ok k hk hb' hl q 6 (by omega) (by omega)) fun s hs => ?_
    obtain ⟨p1, p2, p3, _⟩ := hs
    exact ⟨_, rfl, q1, by dsimp only; omega, h3, by dsimp only; omega, p3⟩
  have j3 : ∀ (y q : Int), 0 ≤ q → q ≤ 5000 → Sm (F19_j3 k a0 some (y, r11, q) (r0, r1, r2, r3, r4, r5, r6, r7, r8, r9, r10, r11, r12)) S22 := fun y q h1 h2 => by
    unfold F19_j3
    refine Sm.bind (seg_ok k hk hb' hl q 6 (by omega) (by omega)) fun s hs => ?_
    obtain ⟨p1, p2, p3, _⟩ := hs
    exact ⟨_, rfl, q1, by dsimp only; omega, by dsimp only; omega, by dsimp only; omega, p3⟩
  refine Sm.cond (fun _ => ?_) (fun _ => ?_)
  · refine pk k hb' hl (by omega) (by omega) (by omega) fun x1 _ _ => ?_
    dsimp only
    rw [i64_in (2 + x1) (by omega)]
    refine btk k hk hb' hl (by omega) (by omega) (by omega) fun x2 hx2 => ?_
    dsimp only
    refine pk k hb' hl (by omega) (by omega) (by omega) fun x3 _ _ => ?_
    dsimp only
    refine Sm.bind (cut_ok k r0 r1 r2 r3 r4 r5 r6 r7 r8 r9 x2 _ q1 q2 (by omega) hk) fun l hl' => ?_
    refine Sm.cond (fun hc => ?_) (fun _ => ?_)
    · have hc := of_decide_eq_true hc
      refine pk k hb' hl (by omega) (by omega) (by omega) fun x4 _ _ => ?_
      refine Sm.cond (fun _ => ?_) (fun _ => ?_)
      · exact two_j1 k hk a0 hb' hl _ _ (by omega) l hl'.2 (by omega) hl'.1
      · exact j2 _ _ _ _ _ (by omega) (by omega) (by omega)
    · exact j2 _ _ _ _ _ (by omega) (by omega) (by omega)
  · refine pk k hb' hl (by omega) (by omega) (by omega) fun x3 _ _ => ?_
    dsimp only
    refine Sm.bind (cut_ok k r0 r1 r2 r3 r4 r5 r6 r7 r8 r9 r10 _ q1 q2 q3 hk) fun l hl' => ?_
    refine Sm.cond (fun hc => ?_) (fun _ => ?_)
    · have hc := of_decide_eq_true hc
      refine pk k hb' hl (by omega) (by omega) (by omega) fun x4 _ _ => ?_
      refine Sm.cond (fun _ => ?_) (fun _ => ?_)
      · exact two_j1 k hk a0 hb' hl _ _ (by omega) l hl'.2 (by omega) hl'.1
      · exact j3 _ _ (by omega) (by omega)
    · exact j3 _ _ (by omega) (by omega)
theorem cut_two (a0 a1 a2 a3 a4 : Int) (a5 a6 a7 a8 : Bool) (a9 : List (den rng)) (a10 : List (den (.int .u8))) (b0 b1 b2 b3 b4 : Int) (b5 b6 b7 b8 : Bool) (b9 : List (den rng)) (b10 : List (den (.int .u8))) (h : (joinV a0 a1 a2 a3 a4 a5 a6 a7 a8 a9 a10 b0 b1 b2 b3 b4 b5 b6 b7 b8 b9 b10).2.2.2.2.2.2.2.2.2.2.2 = true) (hle : b10.length ≤ a10.length) :
    cutR a0 a1 a2 a3 a4 a5 a6 b7 a8 a9 (a10 ++ b10) ((a10.length : Nat) : Int) = [(a0, a1, a2, a3, a4, a5, a6, a7, a8, a9, a10), (b0, b1, b2, b3, b4, b5, b6, b7, b8, b9, b10)] := by
  obtain ⟨_, o1, o2, ⟨rfl, rfl, rfl, rfl, rfl, rfl⟩, ⟨t1, t2, t3, t4⟩, ⟨n1, n2⟩, s2, l1⟩ := joinV_true h
  obtain ⟨q2, q9, q10⟩ := okS_in o1
  obtain ⟨_, _, p10⟩ := okS_in o2
  rw [i64_in _ (by omega)] at l1
  have hok : okS a0 a1 a2 a3 a4 a5 a6 b7 a8 a9 (a10 ++ b10) = true := okS_last _ _ o1 t1 (by rw [List.length_append]; omega)
  have hin : inB ((a10.length : Nat) : Int) 1 12 = true := by
    unfold inB
    rw [decide_eq_true (by omega), decide_eq_true (by omega)]
    rfl
  unfold cutR
  rw [hok, hin]
  simp only [Bool.and_self, cond_true, Int.toNat_natCast, cutV]
  have hlen : (a10 ++ b10).length = a10.length + b10.length := List.length_append
  have hc : cnt a10.length (a10 ++ b10).length = 2 := by
    rw [hlen]
    unfold cnt
    rw [if_neg (by omega)]
    refine Nat.div_eq_of_lt_le (by omega) (by omega)
  rw [hc]
  simp only [List.range_succ, List.range_zero, List.nil_append, List.map_append, List.map_singleton, List.singleton_append]
  subst t1 t2 t3 t4
  have c0 : pcJ a0 a1 a2 a3 a4 a5 a6 b7 false a9 (a10 ++ b10) a10.length 0 = (a0, a1, a2, a3, a4, a5, a6, false, false, a9, a10) := by
    simp only [pcJ, sqJ, piece]
    rw [decide_eq_false (by rw [hlen]; omega : ¬ (a10 ++ b10).length ≤ 0 * a10.length + a10.length)]
    simp
  have c1 : pcJ a0 a1 a2 a3 a4 a5 a6 b7 false a9 (a10 ++ b10) a10.length 1 = (a0, a1, b2, a3, a4, false, a6, b7, false, a9, b10) := by
    simp only [pcJ, sqJ, piece]
    rw [decide_eq_true (by rw [hlen]; omega : (a10 ++ b10).length ≤ 1 * a10.length + a10.length), s2]
    have e1 : ((a10 ++ b10).drop (1 * a10.length)).take a10.length = b10 := by
      rw [Nat.one_mul, List.drop_left]
      exact List.take_of_length_le hle
    rw [e1]
    have e2 : IntKind.i64.wrap (a2 + longS a5 false a10) = a2 + ((1 * a10.length : Nat) : Int) + (if a5 = true then 1 else 0) := by
      unfold longS
      rw [Nat.one_mul, i64_in _ (by split <;> simp <;> omega)]
      split <;> simp <;> omega
    rw [e2]
    simp
  simp only [List.map_cons, List.map_nil]
  rw [c0, c1]
theorem lawJ_true (b : u8L) (hb : BOk b) : F4 (4000000 + 4) b = some true := by
  generalize hn : 4000000 = n
  unfold F4 F4_T
  by_cases hc : ((b.length : Nat) : Int) > 1048576
  · exact (ct (decide_eq_true hc)).trans rfl
  refine (cf (decide_eq_false hc)).trans ?_
  obtain ⟨r, e, q2, q9, q10, p9, p10⟩ := two_ok (n + 4) (by omega) b hb
  obtain ⟨a0, a1, a2, a3, a4, a5, a6, a7, a8, a9, a10, b0, b1, b2, b3, b4, b5, b6, b7, b8, b9, b10⟩ := r
  dsimp only at q2 q9 q10 p9 p10
  have jv := join_val (n + 4) a0 a1 a2 a3 a4 a5 a6 a7 a8 a9 a10 b0 b1 b2 b3 b4 b5 b6 b7 b8 b9 b10 (by omega) (by omega) (by omega) (by omega) (by omega) (by omega)
  have ji := (join_eq n a0 a1 a2 a3 a4 a5 a6 a7 a8 a9 a10 b0 b1 b2 b3 b4 b5 b6 b7 b8 b9 b10 q2 (by omega) (by omega) (by omega) (by omega) (by omega) (by omega)).trans jv
  have al := F15_true (n + 4) (by omega)
  refine (bs e).trans ?_
  refine (bs ji).trans ?_
  refine (bs jv).trans ?_
  refine (cf (by simp)).trans ?_
  cases hf : (joinV a0 a1 a2 a3 a4 a5 a6 a7 a8 a9 a10 b0 b1 b2 b3 b4 b5 b6 b7 b8 b9 b10).2.2.2.2.2.2.2.2.2.2.2 with
  | false =>
    have hz : joinV a0 a1 a2 a3 a4 a5 a6 a7 a8 a9 a10 b0 b1 b2 b3 b4 b5 b6 b7 b8 b9 b10 = (0, 0, 0, 0, 0, false, false, false, false, [], [], false) := joinV_false hf
    rw [hz]
    refine (bs (F18_self (n + 4) 0 0 0 0 0 false false false false [] [] (by simp) (by simp))).trans ?_
    refine (cf rfl).trans ?_
    refine (ct rfl).trans ?_
    exact (bs al).trans rfl
  | true =>
    obtain ⟨ev, o1, o2, _, ⟨t1, t2, t3, t4⟩, n1, _, l1⟩ := joinV_true hf
    have hjn : jn (a0, a1, a2, a3, a4, a5, a6, a7, a8, a9, a10) (b0, b1, b2, b3, b4, b5, b6, b7, b8, b9, b10) = some (a0, a1, a2, a3, a4, a5, a6, b7, a8, a9, a10 ++ b10) := by
      unfold jn
      dsimp only
      rw [hf]
      rfl
    obtain ⟨k1, k2⟩ := jn_ok hjn
    have m10 := okS_len o1
    have m11 := okS_len o2
    have hlen : (a10 ++ b10).length = a10.length + b10.length := List.length_append
    rw [ev]
    refine (bs (F18_self (n + 4) a0 a1 a2 a3 a4 a5 a6 b7 a8 a9 (a10 ++ b10) (by omega) (by omega))).trans ?_
    refine (cf rfl).trans ?_
    refine (cf rfl).trans ?_
    refine (bs (F11_eq (n + 4) a0 a1 a2 a3 a4 a5 a6 b7 a8 a9 (a10 ++ b10) ((a10.length : Nat) : Int) (by omega) (by omega))).trans ?_
    have ok := F14_eq (n + 4) a0 a1 a2 a3 a4 a5 a6 b7 a8 a9 (a10 ++ b10) (by omega) (by omega)
    have ek : okS a0 a1 a2 a3 a4 a5 a6 b7 a8 a9 (a10 ++ b10) = true := k1
    rw [ek] at ok
    refine (bs ok).trans ?_
    refine (ct rfl).trans ?_
    refine (bs (F16_eq (n + 4) a0 a1 a2 a3 a4 a5 a6 b7 a8 a9 (a10 ++ b10) (by omega))).trans ?_
    refine (bs (F16_eq (n + 4) a0 a1 a2 a3 a4 a5 a6 a7 a8 a9 a10 (by omega))).trans ?_
    refine (bs (F16_eq (n + 4) b0 b1 b2 b3 b4 b5 b6 b7 b8 b9 b10 (by omega))).trans ?_
    have k2' : longS a5 b7 (a10 ++ b10) = longS a5 a7 a10 + longS b5 b7 b10 := k2
    have lb : ∀ (f z : Bool) (y : u8L), y.length ≤ 14 → 0 ≤ longS f z y ∧ longS f z y ≤ 16 := fun f z y hy => by
      unfold longS
      split <;> split <;> omega
    have lb1 := lb a5 a7 a10 q10
    have lb2 := lb b5 b7 b10 p10
    rw [i64_in (longS a5 a7 a10 + longS b5 b7 b10) (by omega)]
    refine (ct (beq_iff_eq.2 k2')).trans ?_
    by_cases hgt : ((b10.length : Nat) : Int) > ((a10.length : Nat) : Int)
    · exact (ct (decide_eq_true hgt)).trans rfl
    · refine (cf (decide_eq_false hgt)).trans ?_
      rw [cut_two a0 a1 a2 a3 a4 a5 a6 a7 a8 a9 a10 b0 b1 b2 b3 b4 b5 b6 b7 b8 b9 b10 hf (by omega)]
      have sb : Sg (b0, b1, b2, b3, b4, b5, b6, b7, b8, b9, b10) := ⟨⟨p9, p10⟩, (by have := (okS_in o2).1; exact ⟨by show -9223372036854775808 ≤ b2; omega, by show b2 ≤ 9223372036854775807; omega⟩)⟩
      have sa : Sg (a0, a1, a2, a3, a4, a5, a6, a7, a8, a9, a10) := ⟨⟨q9, q10⟩, q2⟩
      refine (bs (F12_self (n + 4) [(a0, a1, a2, a3, a4, a5, a6, a7, a8, a9, a10), (b0, b1, b2, b3, b4, b5, b6, b7, b8, b9, b10)] (by simp) (by simp) (by omega) (fun s hs => ?_))).trans rfl
      rcases List.mem_cons.1 hs with rfl | hs
      · exact sa
      · obtain rfl := List.mem_singleton.1 hs
        exact sb
theorem pureL (b : u8L) (hb : Wf (.sl (.int .u8)) b) (hy : b.length * 1 ≤ 140737488351232) :
    ∃ k, (∀ b : u8L, Contract Try.prog 4 [.one (.l (.s .ro (.int .u8) b))] ⟨F4 k b, fun r => (.one (.v (.bool r)), [])⟩) ∧ F4 k b = some true :=
  ⟨_, fun b => F4_con _ b, lawJ_true b (BOk.of hb)⟩
end Go.Proofs.Ytnagpaikjikhaaa.Gn
end
