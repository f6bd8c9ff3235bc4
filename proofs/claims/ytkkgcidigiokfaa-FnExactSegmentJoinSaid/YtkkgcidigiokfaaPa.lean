/-
  What the functions that the law reaches answer. (A part of the proofs of this seat.)
-/
import Derived.Test.YtkkgcidigiokfaaGa
import Derived.Test.YtkkgcidigiokfaaRc

section
set_option linter.unusedVariables false
set_option linter.unusedSimpArgs false
/-
  Segments that are joined: the plain functions, in plain words.
-/
namespace Go.Proofs.Ytkkgcidigiokfaa.Gn
open Go.Rf Go.IntWalk

def inB (a b c : Int) : Bool := decide (b ≤ a) && decide (a ≤ c)
theorem F77_eq (k : Nat) (a b c : Int) : F77 k a b c = some (inB a b c) := by
  unfold F77 inB
  have : decide (a ≥ b) = decide (b ≤ a) := rfl
  rw [this]
  cases decide (b ≤ a) <;> rfl
theorem F106_eq (k : Nat) (a b c : Int) : F106 k a b c = some (inB a b c) := F77_eq k a b c
theorem F97_eq (k : Nat) (a : Int) : F97 k a = some (inB a 1 255) := by unfold F97; rw [F106_eq]; rfl
theorem F96_eq (k : Nat) (a : Int) : F96 k a = some (inB a 0 65535) := by unfold F96; rw [F106_eq]; rfl
abbrev u8L : Type := List (den (.int .u8))
abbrev rgL : Type := List (den rng)
abbrev Seg : Type := (Int × Int × Int × Int × Int × Bool × Bool × Bool × Bool × List (den rng) × List (den (.int .u8)))

/-! ### sizes and copies -/
theorem ml : maxLen = 9223372036854775807 := rfl
theorem F57_eq (k : Nat) (l : rgL) (x : Int) (hl : l.length ≤ maxLen) (hx : 0 ≤ x ∧ x ≤ 1048576) : F57 k l x = some (if (l.length : Int) ≤ x then x - (l.length : Int) else -1) := by
  simp only [F57, F57_T]
  rw [ml] at hl
  rw [i64_in _ (by omega)]
  by_cases h : (l.length : Int) ≤ x
  · rw [decide_eq_false (by omega), if_pos h]; rfl
  · rw [decide_eq_true (by omega), if_neg h]; rfl
theorem F58_eq (k : Nat) (l : u8L) (x : Int) (hl : l.length ≤ maxLen) (hx : 0 ≤ x ∧ x ≤ 1048576) : F58 k l x = some (if (l.length : Int) ≤ x then x - (l.length : Int) else -1) := by
  simp only [F58, F58_T]
  rw [ml] at hl
  rw [i64_in _ (by omega)]
  by_cases h : (l.length : Int) ≤ x
  · rw [decide_eq_false (by omega), if_pos h]; rfl
  · rw [decide_eq_true (by omega), if_neg h]; rfl
theorem F12_eq (k : Nat) (a0 a1 a2 a3 a4 : Int) (a5 a6 a7 a8 : Bool) (a9 : List (den rng)) (a10 : List (den (.int .u8))) (x : Int) (h9 : a9.length ≤ maxLen) (h10 : a10.length ≤ maxLen) (hx : 0 ≤ x ∧ x ≤ 1048576) :
    F12 k a0 a1 a2 a3 a4 a5 a6 a7 a8 a9 a10 x = some (if (a9.length : Int) + (a10.length : Int) ≤ x then x - (a9.length : Int) - (a10.length : Int) else -1) := by
  simp only [F12, F12_T]
  rw [F57_eq k a9 x h9 hx, Option.bind_some]
  by_cases h : (a9.length : Int) ≤ x
  · rw [if_pos h, decide_eq_false (by omega), cond_false, F58_eq k a10 _ h10 (by omega), Option.bind_some]
    by_cases h2 : (a10.length : Int) ≤ x - (a9.length : Int)
    · rw [if_pos h2, decide_eq_false (by omega), if_pos (by omega)]; rfl
    · rw [if_neg h2, if_neg (by omega)]; rfl
  · rw [if_neg h, if_neg (by omega)]; rfl
theorem F64_eq (k : Nat) (l : rgL) (hl : l.length ≤ 1048576) (hk : l.length < k) : F64 k l = some l := by
  have := copyLoop l id (fun n j m => F64_l0 k l n j m) id
    (fun n j m h hm => by
      simp only [F64_l0, F64_l0_T]
      rw [atI_get l j h, up1 j (by omega), F133]
      simp only [Option.bind_some]
      rw [decide_eq_true (by omega : ((j : Nat) : Int) < (l.length : Nat)), decide_eq_true (by omega : (0 : Int) ≤ (j : Nat)), decide_eq_true (by omega : ((j : Nat) : Int) < (m.length : Nat))]
      rfl)
    (fun n m hm => by simp [F64_l0, F64_l0_T]) k 0 (List.replicate l.length (dflt rng)) (Nat.zero_le _) (by omega) (by simp) (by simp)
  simp only [List.map_id] at this
  simp only [F64, F64_T]
  rw [decide_eq_true (by omega : (0 : Int) ≤ ((l.length : Nat) : Int)), decide_eq_true (by omega : ((l.length : Nat) : Int) * (16 : Nat) ≤ 140737488355328)]
  simp only [decide_true, Bool.and_self, cond_true]
  exact this
theorem F40_eq (k : Nat) (l : u8L) (hl : l.length ≤ 1048576) (hk : l.length < k) : F40 k l = some l := by
  have := copyLoop l id (fun n j m => F40_l0 k l n j m) id
    (fun n j m h hm => by
      simp only [F40_l0, F40_l0_T]
      rw [atI_get l j h, up1 j (by omega)]
      rw [decide_eq_true (by omega : ((j : Nat) : Int) < (l.length : Nat)), decide_eq_true (by omega : (0 : Int) ≤ (j : Nat)), decide_eq_true (by omega : ((j : Nat) : Int) < (m.length : Nat))]
      rfl)
    (fun n m hm => by simp [F40_l0, F40_l0_T]) k 0 (List.replicate l.length (dflt (.int .u8))) (Nat.zero_le _) (by omega) (by simp) (by simp)
  simp only [List.map_id] at this
  simp only [F40, F40_T]
  rw [decide_eq_true (by omega : (0 : Int) ≤ ((l.length : Nat) : Int)), decide_eq_true (by omega : ((l.length : Nat) : Int) * (1 : Nat) ≤ 140737488355328)]
  simp only [decide_true, Bool.and_self, cond_true]
  exact this
theorem F14_eq (k : Nat) (a0 a1 a2 a3 a4 : Int) (a5 a6 a7 a8 : Bool) (a9 : List (den rng)) (a10 : List (den (.int .u8))) (h9 : a9.length ≤ 1048576) (h10 : a10.length ≤ 1048576) (k9 : a9.length < k) (k10 : a10.length < k) : F14 k a0 a1 a2 a3 a4 a5 a6 a7 a8 a9 a10 = some (a0, a1, a2, a3, a4, a5, a6, a7, a8, a9, a10) := by
  simp only [F14, F14_T]
  rw [F64_eq k a9 h9 k9, F40_eq k a10 h10 k10]; rfl

/-! ### are they segments -/
def rgB (a : den rng) : Bool := inB a.1 0 65535 && inB a.2 0 65535
def okT (a3 a4 : Int) (a5 a6 a7 a8 : Bool) (a9 : rgL) (a10 : u8L) : Bool :=
  cond (!a6) (cond (a3 != 0) false (cond (a4 != 0) false (cond (decide (((a9.length : Nat) : Int) > 0)) false (cond (!a8) true (cond (!a5) (cond (!a7) (((a10.length : Nat) : Int) == 0) false) false)))))
    (cond (!a8) true (cond (!a5) (cond (!a7) (((a10.length : Nat) : Int) == 0) false) false))
def okS (a0 a1 a2 a3 a4 : Int) (a5 a6 a7 a8 : Bool) (a9 : List (den rng)) (a10 : List (den (.int .u8))) : Bool :=
  inB a0 1 255 && inB a1 1 255 && inB a2 0 65535 && inB a3 0 65535 && inB a4 0 255 && !(decide (((a9.length : Nat) : Int) > 2)) && !(decide (((a10.length : Nat) : Int) > 12)) && (a9.all rgB && okT a3 a4 a5 a6 a7 a8 a9 a10)
theorem some_cond {α : Type} (c : Bool) (a b : α) : cond c (some a) (some b) = some (cond c a b) := by cases c <;> rfl
theorem F59_l (k : Nat) (a0 a1 a2 a3 a4 : Int) (a5 a6 a7 a8 : Bool) (a9 : List (den rng)) (a10 : List (den (.int .u8))) (h9 : a9.length ≤ 1048576) (k9 : a9.length < k) : F59_l0 k a0 a1 a2 a3 a4 a5 a6 a7 a8 a9 a10 k 0 = some (a9.all rgB && okT a3 a4 a5 a6 a7 a8 a9 a10) := by
  have := scanLoop a9 (fun n (_ : Unit) j => F59_l0 k a0 a1 a2 a3 a4 a5 a6 a7 a8 a9 a10 n j) (fun _ _ a => cond (rgB a) (.inl ()) (.inr false)) (fun _ => okT a3 a4 a5 a6 a7 a8 a9 a10)
    (fun n s j h => by
      simp only [F59_l0, F59_l0_T]
      rw [atI_get a9 j h, F77_eq, F77_eq, up1 j (by omega)]
      simp only [Option.bind_some]
      rw [decide_eq_true (by omega : ((j : Nat) : Int) < (a9.length : Nat)), decide_eq_true (by omega : (0 : Int) ≤ (j : Nat))]
      unfold rgB
      cases inB a9[j].1 0 65535 <;> cases inB a9[j].2 0 65535 <;> rfl)
    (fun n s => by
      simp only [F59_l0, F59_l0_T]
      rw [decide_eq_false (by omega : ¬ ((a9.length : Nat) : Int) < (a9.length : Nat))]
      simp only [cond_false, some_cond, okT]) k () 0 (Nat.zero_le _) (by omega)
  rw [scan_all, List.drop_zero] at this
  exact this
theorem F59_eq (k : Nat) (a0 a1 a2 a3 a4 : Int) (a5 a6 a7 a8 : Bool) (a9 : List (den rng)) (a10 : List (den (.int .u8))) (h9 : a9.length ≤ 1048576) (k9 : a9.length < k) : F59 k a0 a1 a2 a3 a4 a5 a6 a7 a8 a9 a10 = some (okS a0 a1 a2 a3 a4 a5 a6 a7 a8 a9 a10) := by
  simp only [F59, F59_T]
  rw [F59_l k a0 a1 a2 a3 a4 a5 a6 a7 a8 a9 a10 h9 k9]
  simp only [F77_eq, Option.bind_some, okS]
  cases inB a0 1 255 <;> try rfl
  cases inB a1 1 255 <;> try rfl
  cases inB a2 0 65535 <;> try rfl
  cases inB a3 0 65535 <;> try rfl
  cases inB a4 0 255 <;> try rfl
  cases decide (((a9.length : Nat) : Int) > 2) <;> try rfl
  cases decide (((a10.length : Nat) : Int) > 12) <;> rfl
theorem F135_eq (k : Nat) (a b : Int) : F135 k a b = some (!(rgB (a, b))) := by
  unfold F135 rgB
  rw [F96_eq, F96_eq]
  simp only [Option.bind_some]
  cases inB a 0 65535 <;> cases inB b 0 65535 <;> rfl
theorem F134_eq (k : Nat) (l : rgL) (h9 : l.length ≤ 1048576) (k9 : l.length < k) : F134 k l = some (!(l.all rgB)) := by
  have := scanLoop l (fun n (_ : Unit) j => F166_l0 k l n j) (fun _ j a => cond (rgB a) (.inl ()) (.inr (j : Int))) (fun _ => -1)
    (fun n s j h => by
      simp only [F166_l0, F166_l0_T]
      rw [atI_get l j h, F135_eq, up1 j (by omega)]
      simp only [Option.bind_some]
      rw [decide_eq_true (by omega : ((j : Nat) : Int) < (l.length : Nat)), decide_eq_true (by omega : (0 : Int) ≤ (j : Nat))]
      show cond true (cond true (cond true (cond (!rgB l[j]) _ _) _) _) _ = _
      cases rgB l[j] <;> rfl)
    (fun n s => by
      simp only [F166_l0, F166_l0_T]
      rw [decide_eq_false (by omega : ¬ ((l.length : Nat) : Int) < (l.length : Nat))]; rfl) k () 0 (Nat.zero_le _) (by omega)
  rw [List.drop_zero] at this
  have hs : ∀ (r : rgL) (j : Nat), (decide (scan (fun (_ : Unit) j a => cond (rgB a) (.inl ()) (.inr (j : Int))) (fun _ => (-1 : Int)) () j r ≥ 0)) = !(r.all rgB) := by
    intro r
    induction r with
    | nil => intro j; rfl
    | cons a r ih =>
      intro j
      rw [scan, List.all_cons]
      cases rgB a with
      | true => simpa using ih (j + 1)
      | false => simp
  simp only [F134, F166, F166_T]
  have this2 : F166_l0 k l k 0 = _ := this
  rw [this2, Option.bind_some, hs l 0]
theorem F65_eq (k : Nat) (a0 a1 a2 a3 a4 : Int) (a5 a6 a7 a8 : Bool) (a9 : List (den rng)) (a10 : List (den (.int .u8))) (h9 : a9.length ≤ 1048576) (k9 : a9.length < k) : F65 k a0 a1 a2 a3 a4 a5 a6 a7 a8 a9 a10 = some (okS a0 a1 a2 a3 a4 a5 a6 a7 a8 a9 a10) := by
  simp only [F65, F65_T]
  rw [F134_eq k a9 h9 k9]
  simp only [F97_eq, F96_eq, F106_eq, Option.bind_some, some_cond, okS]
  cases inB a0 1 255 <;> try rfl
  cases inB a1 1 255 <;> try rfl
  cases inB a2 0 65535 <;> try rfl
  cases inB a3 0 65535 <;> try rfl
  cases inB a4 0 255 <;> try rfl
  cases decide (((a9.length : Nat) : Int) > 2) <;> try rfl
  cases decide (((a10.length : Nat) : Int) > 12) <;> try rfl
  cases a9.all rgB <;> rfl

/-! ### what it needs besides -/
theorem F67_eq (k : Nat) (a : Int) (h : -9223372036854775808 ≤ a ∧ a ≤ 9223372036854775807) : F67 k a = F61 k a := by
  unfold F67 F61
  have hm := Int.tmod_lt_of_pos a (show (0 : Int) < 65536 by omega)
  have hm2 : -65536 < a.tmod 65536 := by
    have := Int.tmod_lt_of_pos (-a) (show (0 : Int) < 65536 by omega)
    rw [Int.neg_tmod] at this
    omega
  rw [i64_in _ (by omega)]
  by_cases hn : a.tmod 65536 < 0
  · rw [decide_eq_true hn, cond_true]
    congr 1
    rw [Int.tmod_eq_of_lt (by omega) (by omega)]
  · rw [decide_eq_false hn, cond_false]
    congr 1
    have : (a.tmod 65536 + 65536).tmod 65536 = a.tmod 65536 := by
      rw [Int.tmod_eq_emod_of_nonneg (by omega), Int.add_emod_right, Int.emod_eq_of_lt (by omega) hm]
    exact this

/-- a number's place in a round -/
def seqOf (a : Int) : Int := cond (decide (a.tmod 65536 < 0)) (IntKind.i64.wrap (a.tmod 65536 + 65536)) (a.tmod 65536)
theorem F61_val (k : Nat) (a : Int) : F61 k a = some (seqOf a) := by unfold F61 seqOf; rw [some_cond]
theorem F67_val (k : Nat) (a : Int) (h : -9223372036854775808 ≤ a ∧ a ≤ 9223372036854775807) : F67 k a = some (seqOf a) := by rw [F67_eq k a h, F61_val]
/-- how many numbers a segment takes -/
def longS (a5 a7 : Bool) (a10 : u8L) : Int := (a10.length : Int) + (if a5 then 1 else 0) + (if a7 then 1 else 0)
theorem F62_eq (k : Nat) (a0 a1 a2 a3 a4 : Int) (a5 a6 a7 a8 : Bool) (a9 : List (den rng)) (a10 : List (den (.int .u8))) (h : a10.length ≤ 1048576) : F62 k a0 a1 a2 a3 a4 a5 a6 a7 a8 a9 a10 = some (longS a5 a7 a10) := by
  simp only [F62, F62_T, longS]
  rw [i64_in ((a10.length : Nat) + 1 : Int) (by omega), i64_in _ (by omega)]
  cases a5 <;> cases a7 <;> simp
theorem F49_eq (k : Nat) (a0 a1 a2 a3 a4 : Int) (a5 a6 a7 a8 : Bool) (a9 : List (den rng)) (a10 : List (den (.int .u8))) (h : a10.length ≤ 1048576) : F49 k a0 a1 a2 a3 a4 a5 a6 a7 a8 a9 a10 = some (longS a5 a7 a10) := by
  simp only [F49, F49_T, longS, F130, some_cond, Option.bind_some]
  have e : ∀ c : Int, 0 ≤ c → c ≤ 10 → IntKind.i64.wrap ((a10.length : Int) + c) = (a10.length : Int) + c := fun c h1 h2 => i64_in _ (by omega)
  have e2 : ∀ c d : Int, 0 ≤ c → c ≤ 10 → 0 ≤ d → d ≤ 10 → IntKind.i64.wrap ((a10.length : Int) + c + d) = (a10.length : Int) + c + d := fun c d h1 h2 h3 h4 => i64_in _ (by omega)
  cases a5 <;> cases a7 <;> simp only [cond_true, cond_false, e 0 (by omega) (by omega), e 1 (by omega) (by omega), e2 0 0 (by omega) (by omega) (by omega) (by omega), e2 0 1 (by omega) (by omega) (by omega) (by omega), e2 1 0 (by omega) (by omega) (by omega) (by omega), e2 1 1 (by omega) (by omega) (by omega) (by omega)] <;> rfl
theorem F167_eq (k : Nat) (l : rgL) : F167 k l = some l := by
  simp only [F167, F167_T]
  rw [decide_eq_true (by omega : (0 : Int) ≤ ((l.length : Nat) : Int))]
  simp
theorem F168_eq (k : Nat) (l : u8L) : F168 k l = some l := by
  simp only [F168, F168_T]
  rw [decide_eq_true (by omega : (0 : Int) ≤ ((l.length : Nat) : Int))]
  simp
theorem F136_eq (k : Nat) (l : rgL) (h : l.length ≤ 4194304) : F136 k l = some l := by
  simp only [F136, F136_T, F167_eq, List.nil_append, List.length_nil, Nat.zero_add]
  rw [decide_eq_true (by omega : l.length * 16 ≤ 140737488355328)]
  cases l with
  | nil => rfl
  | cons a r => rw [show ((((a :: r).length : Nat) : Int) == 0) = false by rw [beq_eq_false_iff_ne]; simp only [List.length_cons]; omega]; rfl
theorem F137_eq (k : Nat) (l : u8L) (h : l.length ≤ 4194304) : F137 k l = some l := by
  simp only [F137, F137_T, F168_eq, List.nil_append, List.length_nil, Nat.zero_add]
  rw [decide_eq_true (by omega : l.length * 1 ≤ 140737488355328)]
  cases l with
  | nil => rfl
  | cons a r => rw [show ((((a :: r).length : Nat) : Int) == 0) = false by rw [beq_eq_false_iff_ne]; simp only [List.length_cons]; omega]; rfl
theorem F68_eq (k : Nat) (a0 a1 a2 a3 a4 : Int) (a5 a6 a7 a8 : Bool) (a9 : List (den rng)) (a10 : List (den (.int .u8))) (h9 : a9.length ≤ 4194304) (h10 : a10.length ≤ 4194304) : F68 k a0 a1 a2 a3 a4 a5 a6 a7 a8 a9 a10 = some (a0, a1, a2, a3, a4, a5, a6, a7, a8, a9, a10) := by
  simp only [F68, F68_T]
  rw [F136_eq k a9 h9, F137_eq k a10 h10]; rfl
theorem F63_eq (k : Nat) (a0 a1 a2 a3 a4 : Int) (a5 a6 a7 a8 : Bool) (a9 : List (den rng)) (a10 : List (den (.int .u8))) (h9 : a9.length ≤ 4194304) (h10 : a10.length ≤ 4194304) : F63 k a0 a1 a2 a3 a4 a5 a6 a7 a8 a9 a10 = some (a0, a1, a2, a3, a4, a5, a6, a7, a8, a9, a10) := by
  simp only [F63, F63_T, List.nil_append, List.length_nil, Nat.zero_add]
  rw [decide_eq_true (by omega : a9.length * 16 ≤ 140737488355328), decide_eq_true (by omega : a10.length * 1 ≤ 140737488355328)]; rfl
theorem F138_eq (k : Nat) (a : Int) (h : 0 ≤ a ∧ a ≤ 16777216) : F138 k a = some [] := by
  simp only [F138, F138_T]
  rw [decide_eq_false (by omega : ¬ a < 0), i64_in _ (by omega)]
  by_cases h0 : a = 0
  · subst h0; rfl
  · rw [decide_eq_true (by omega : a - 0 > 0), decide_eq_true (by omega : (a - 0) * (1 : Nat) ≤ 140737488355328)]
    rw [decide_eq_true (by omega : (0 : Int) ≤ (((List.replicate ((a - 0).toNat) (dflt (.int .u8))).length : Nat) : Int))]
    rfl
theorem F69_eq (n : Nat) (x y : u8L) (hx : x.length ≤ 1048576) (hy : y.length ≤ 1048576) : F69 (n + 4) [x, y] = some (x ++ y) := by
  have hl2 : F69_l2 (n + 4) [x, y] (n + 4) 0 [] = some (x ++ y) := by
    have e0 : atI (t := .sl (.int .u8)) [x, y] 0 = x := rfl
    have e1 : atI (t := .sl (.int .u8)) [x, y] 1 = y := rfl
    have w1 : IntKind.i64.wrap (0 + 1) = 1 := rfl
    have w2 : IntKind.i64.wrap (1 + 1) = 2 := rfl
    simp only [F69_l2, F69_l2_T, w1, w2, e0, e1, List.nil_append, List.length_nil, Nat.zero_add]
    rw [decide_eq_true (by omega : x.length * 1 ≤ 140737488355328), decide_eq_true (by omega : (x.length + y.length) * 1 ≤ 140737488355328)]
    rfl
  have hl0 : F69_l0 (n + 4) [x, y] (n + 4) 0 0 = some (x ++ y) := by
    have e0 : atI (t := .sl (.int .u8)) [x, y] 0 = x := rfl
    have e1 : atI (t := .sl (.int .u8)) [x, y] 1 = y := rfl
    have w1 : IntKind.i64.wrap (0 + 1) = 1 := rfl
    have w2 : IntKind.i64.wrap (1 + 1) = 2 := rfl
    have w3 : IntKind.i64.wrap (0 + (x.length : Int)) = (x.length : Int) := by rw [i64_in _ (by omega)]; omega
    have w4 : IntKind.i64.wrap ((x.length : Int) + (y.length : Int)) = (x.length : Int) + (y.length : Int) := i64_in _ (by omega)
    simp only [F69_l0, F69_l0_T, w1, w2, e0, e1, w3, w4]
    rw [decide_eq_false (by omega : ¬ ((x.length : Nat) : Int) < 0), decide_eq_false (by omega : ¬ ((x.length : Nat) : Int) + ((y.length : Nat) : Int) < 0),
      F138_eq (n + 4) ((x.length : Int) + (y.length : Int)) (by omega), Option.bind_some, hl2]
    rfl
  simp only [F69, F69_T]
  exact hl0

/-! ### rows held against each other -/
theorem eqD_rng (a b : den rng) : eqD rng a b = decide (a = b) := by
  obtain ⟨a1, a2⟩ := a
  obtain ⟨b1, b2⟩ := b
  simp only [eqD]
  have e : ((a1, a2) = (b1, b2)) ↔ (a1 = b1 ∧ a2 = b2) := Prod.mk.injEq .. ▸ Iff.rfl
  by_cases h1 : a1 = b1 <;> by_cases h2 : a2 = b2 <;> simp [h1, h2, e]
theorem F66_l (k : Nat) (a b : rgL) (hlen : a.length = b.length) (h9 : a.length ≤ 4194304) (k9 : a.length < k) : F66_l0 k a b k 0 = some (decide (a = b)) :=
  eqLoop a b (fun n j => F66_l0 k a b n j) hlen
    (fun n j h h' => by
      simp only [F66_l0, F66_l0_T]
      rw [atI_get a j h, atI_get b j h', eqD_rng, up1 j (by omega)]
      rw [decide_eq_true (by omega : ((j : Nat) : Int) < (a.length : Nat)), decide_eq_true (by omega : ((j : Nat) : Int) < (b.length : Nat)), decide_eq_true (by omega : (0 : Int) ≤ (j : Nat))]
      by_cases hc : a[j] = b[j]
      · rw [decide_eq_true hc, if_pos hc]; rfl
      · rw [decide_eq_false hc, if_neg hc]; rfl)
    (fun n => by
      simp only [F66_l0, F66_l0_T]
      rw [decide_eq_false (by omega : ¬ ((a.length : Nat) : Int) < (a.length : Nat))]; rfl) k 0 (Nat.zero_le _) (by omega)
theorem F66_eq (k : Nat) (a b : rgL) (h9 : a.length ≤ 4194304) (k9 : a.length < k) : F66 k a b = some (decide (a = b)) := by
  simp only [F66, F66_T]
  by_cases hlen : a.length = b.length
  · rw [F66_l k a b hlen h9 k9, hlen]; simp
  · rw [show (((a.length : Nat) : Int) != ((b.length : Nat) : Int)) = true by rw [bne_iff_ne]; omega, cond_true, decide_eq_false (fun h => hlen (by rw [h]))]
theorem F60_l (k : Nat) (a0 a1 a2 a3 a4 : Int) (a5 a6 a7 a8 : Bool) (a9 : List (den rng)) (a10 : List (den (.int .u8))) (b0 b1 b2 b3 b4 : Int) (b5 b6 b7 b8 : Bool) (b9 : List (den rng)) (b10 : List (den (.int .u8))) (hlen : a9.length = b9.length) (h9 : a9.length ≤ 4194304) (k9 : a9.length < k) : F60_l0 k a0 a1 a2 a3 a4 a5 a6 a7 a8 a9 a10 b0 b1 b2 b3 b4 b5 b6 b7 b8 b9 b10 k 0 = some (decide (a9 = b9)) :=
  eqLoop a9 b9 (fun n j => F60_l0 k a0 a1 a2 a3 a4 a5 a6 a7 a8 a9 a10 b0 b1 b2 b3 b4 b5 b6 b7 b8 b9 b10 n j) hlen
    (fun n j h h' => by
      simp only [F60_l0, F60_l0_T]
      rw [atI_get a9 j h, atI_get b9 j h', eqD_rng, up1 j (by omega)]
      rw [decide_eq_true (by omega : ((j : Nat) : Int) < (a9.length : Nat)), decide_eq_true (by omega : ((j : Nat) : Int) < (b9.length : Nat)), decide_eq_true (by omega : (0 : Int) ≤ (j : Nat))]
      by_cases hc : a9[j] = b9[j]
      · rw [decide_eq_true hc, if_pos hc]; rfl
      · rw [decide_eq_false hc, if_neg hc]; rfl)
    (fun n => by
      simp only [F60_l0, F60_l0_T]
      rw [decide_eq_false (by omega : ¬ ((a9.length : Nat) : Int) < (a9.length : Nat))]; rfl) k 0 (Nat.zero_le _) (by omega)
theorem F60_eq (k : Nat) (a0 a1 a2 a3 a4 : Int) (a5 a6 a7 a8 : Bool) (a9 : List (den rng)) (a10 : List (den (.int .u8))) (b0 b1 b2 b3 b4 : Int) (b5 b6 b7 b8 : Bool) (b9 : List (den rng)) (b10 : List (den (.int .u8))) (h9 : a9.length ≤ 4194304) (k9 : a9.length < k) : F60 k a0 a1 a2 a3 a4 a5 a6 a7 a8 a9 a10 b0 b1 b2 b3 b4 b5 b6 b7 b8 b9 b10 =
    cond (a0 != b0) (some false) (cond (a1 != b1) (some false) (cond (!(a6 == b6)) (some false) (cond (a3 != b3) (some false) (cond (a4 != b4) (some false) (some (decide (a9 = b9))))))) := by
  simp only [F60, F60_T]
  by_cases hlen : a9.length = b9.length
  · rw [F60_l k a0 a1 a2 a3 a4 a5 a6 a7 a8 a9 a10 b0 b1 b2 b3 b4 b5 b6 b7 b8 b9 b10 hlen h9 k9, hlen]; simp
  · rw [show (((a9.length : Nat) : Int) != ((b9.length : Nat) : Int)) = true by rw [bne_iff_ne]; omega, cond_true, decide_eq_false (fun h => hlen (by rw [h]))]
theorem F70_self (k : Nat) (a : rgL) (h9 : a.length ≤ 4194304) (k9 : a.length < k) : F70 k a a = some true := by
  have := foldLoop a (fun n (_ : Unit) j => F70_l0 k a a n j) (fun s _ => s) (fun _ => true)
    (fun n s j h => by
      simp only [F70_l0, F70_l0_T]
      rw [atI_get a j h, up1 j (by omega), F139]
      simp [h])
    (fun n s => by simp [F70_l0, F70_l0_T]) k () 0 (Nat.zero_le _) (by omega)
  simp only [F70, F70_T, bne_self_eq_false, cond_false]
  exact this
theorem F42_self (k : Nat) (a : u8L) (h9 : a.length ≤ 4194304) (k9 : a.length < k) : F42 k a a = some true := by
  have := foldLoop a (fun n (_ : Unit) j => F42_l0 k a a n j) (fun s _ => s) (fun _ => true)
    (fun n s j h => by
      simp only [F42_l0, F42_l0_T]
      rw [atI_get a j h, up1 j (by omega)]
      simp [h])
    (fun n s => by simp [F42_l0, F42_l0_T]) k () 0 (Nat.zero_le _) (by omega)
  simp only [F42, F42_T, bne_self_eq_false, cond_false]
  exact this
theorem F16_self (k : Nat) (a0 a1 a2 a3 a4 : Int) (a5 a6 a7 a8 : Bool) (a9 : List (den rng)) (a10 : List (den (.int .u8))) (h9 : a9.length ≤ 4194304) (h10 : a10.length ≤ 4194304) (k9 : a9.length < k) (k10 : a10.length < k) : F16 k a0 a1 a2 a3 a4 a5 a6 a7 a8 a9 a10 a0 a1 a2 a3 a4 a5 a6 a7 a8 a9 a10 = some true := by
  simp only [F16, F16_T, F70_self k a9 h9 k9, F42_self k a10 h10 k10, bne_self_eq_false, beq_self_eq_true, Bool.not_true, cond_false, Option.bind_some]

/-! ### marks -/
def gR (x : Int) (a : den rng) : den rng := (x, x + 1)
def gB (x : Int) (a : den (.int .u8)) : den (.int .u8) := IntKind.u8.wrap x
theorem F71_eq (k : Nat) (l : rgL) (x : Int) (hk : l.length < k) (h0 : 0 ≤ x) (hB : x + 2 * (l.length : Int) ≤ 1099511627776) :
    F71 k l x = some (x + 2 * (l.length : Int), marks gR (fun _ => 2) x l) := by
  have := markLoop 1099511627776 l.length (fun n y j m => F71_l0 k l x n y j m) gR (fun _ => 2) (fun x m => (x, m)) (fun _ => by decide)
    (fun n y j m h hN h0 hB => by
      simp only [F71_l0, F71_l0_T, List.length_set, Int.toNat_natCast]
      rw [up1 j (by omega), i64_in (y + 1) (by omega), i64_in (y + 1 + 1) (by omega), List.set_set]
      rw [decide_eq_true (by omega : ((j : Nat) : Int) < (m.length : Nat)), decide_eq_true (by omega : (0 : Int) ≤ (j : Nat))]
      rw [atI_get (m.set j (y, (atI m (j : Int)).2)) j (by simpa using h)]
      simp only [List.getElem_set_self, cond_true]
      rw [Int.add_assoc]; rfl)
    (fun n x m => by simp [F71_l0, F71_l0_T]) k x [] l (by simp) hk h0 (by rw [sumS_const]; exact hB)
  rw [sumS_const] at this
  simp only [F71, F71_T]
  exact this
theorem F43_eq (k : Nat) (l : u8L) (x : Int) (hk : l.length < k) (h0 : 0 ≤ x) (hB : x + (l.length : Int) ≤ 1099511627776) :
    F43 k l x = some (x + (l.length : Int), marks gB (fun _ => 1) x l) := by
  have := markLoop 1099511627776 l.length (fun n y j m => F43_l0 k l x n y j m) gB (fun _ => 1) (fun x m => (x, m)) (fun _ => by decide)
    (fun n y j m h hN h0 hB => by
      simp only [F43_l0, F43_l0_T, Int.toNat_natCast]
      rw [up1 j (by omega), i64_in (y + 1) (by omega)]
      rw [decide_eq_true (by omega : ((j : Nat) : Int) < (m.length : Nat)), decide_eq_true (by omega : (0 : Int) ≤ (j : Nat))]
      rfl)
    (fun n x m => by simp [F43_l0, F43_l0_T]) k x [] l (by simp) hk h0 (by rw [sumS_const]; omega)
  rw [sumS_const, Int.one_mul] at this
  simp only [F43, F43_T]
  exact this
theorem F72_eq (k : Nat) (l : rgL) (x : Int) (hk : l.length < k) (h0 : 0 ≤ x) (hB : x + 2 * (l.length : Int) ≤ 1099511627776) :
    F72 k (marks gR (fun _ => 2) x l) x = some (x + 2 * (l.length : Int)) := by
  have hlen := marks_len gR (fun _ => 2) x l
  have hsum := sumS_marks (g := gR) (s := fun _ => 2) (fun _ _ => rfl) x l
  rw [sumS_const 2 l] at hsum
  have hh := Helds_marks (t := fun x a => a = ((x, x + 1) : Int × Int)) (g := gR) (s := fun _ => 2) (fun _ _ => rfl) (fun _ _ => rfl) x l
  have h9 := sumS_const 2 (marks gR (fun _ => 2) x l)
  generalize marks gR (fun _ => 2) x l = m at hlen hsum hh h9
  have := heldLoop 1099511627776 m (fun n y j => F72_l0 k m x n y j) (fun x a => a = ((x, x + 1) : Int × Int)) (fun _ => 2) (fun x => x) (fun _ => by decide)
    (fun n y j h ht h0 hB => by
      simp only [F72_l0, F72_l0_T]
      rw [up1 j (by omega), i64_in (y + 1) (by omega), i64_in (y + 1 + 1) (by omega), atI_get m j h, ht]
      rw [decide_eq_true (by omega : ((j : Nat) : Int) < (m.length : Nat)), decide_eq_true (by omega : (0 : Int) ≤ (j : Nat))]
      simp only [bne_self_eq_false, cond_true, cond_false]
      rw [Int.add_assoc]; rfl)
    (fun n y => by simp [F72_l0, F72_l0_T]) k x 0 (Nat.zero_le _) (by omega) h0 (by rw [List.drop_zero, hsum]; exact hB) (by rw [List.drop_zero]; exact hh)
  rw [List.drop_zero, hsum] at this
  simp only [F72, F72_T]
  exact this
theorem F73_eq (k : Nat) (l : u8L) (x : Int) (hk : l.length < k) (h0 : 0 ≤ x) (hB : x + (l.length : Int) ≤ 1099511627776) :
    F73 k (marks gB (fun _ => 1) x l) x = some (x + (l.length : Int)) := by
  have hlen := marks_len gB (fun _ => 1) x l
  have hsum := sumS_marks (g := gB) (s := fun _ => 1) (fun _ _ => rfl) x l
  rw [sumS_const 1 l, Int.one_mul] at hsum
  have hh := Helds_marks (t := fun x a => a = IntKind.u8.wrap x) (g := gB) (s := fun _ => 1) (fun _ _ => rfl) (fun _ _ => rfl) x l
  have h9 := sumS_const 1 (marks gB (fun _ => 1) x l)
  generalize marks gB (fun _ => 1) x l = m at hlen hsum hh h9
  have := heldLoop 1099511627776 m (fun n y j => F73_l0 k m x n y j) (fun x a => a = IntKind.u8.wrap x) (fun _ => 1) (fun x => x) (fun _ => by decide)
    (fun n y j h ht h0 hB => by
      simp only [F73_l0, F73_l0_T]
      rw [up1 j (by omega), i64_in (y + 1) (by omega), atI_get m j h, ht]
      rw [decide_eq_true (by omega : ((j : Nat) : Int) < (m.length : Nat)), decide_eq_true (by omega : (0 : Int) ≤ (j : Nat))]
      simp only [bne_self_eq_false, cond_true, cond_false])
    (fun n y => by simp [F73_l0, F73_l0_T]) k x 0 (Nat.zero_le _) (by omega) h0 (by rw [List.drop_zero, hsum]; exact hB) (by rw [List.drop_zero]; exact hh)
  rw [List.drop_zero, hsum] at this
  simp only [F73, F73_T]
  exact this
theorem F17_eq (k : Nat) (a0 a1 a2 a3 a4 : Int) (a5 a6 a7 a8 : Bool) (a9 : List (den rng)) (a10 : List (den (.int .u8))) (x : Int) (k9 : a9.length < k) (k10 : a10.length < k) (h0 : 0 ≤ x) (hB : x + 2 * (a9.length : Int) + (a10.length : Int) ≤ 1099511627776) :
    F17 k a0 a1 a2 a3 a4 a5 a6 a7 a8 a9 a10 x = some (x + 2 * (a9.length : Int) + (a10.length : Int), marks gR (fun _ => 2) x a9, marks gB (fun _ => 1) (x + 2 * (a9.length : Int)) a10) := by
  unfold F17
  rw [F71_eq k a9 x k9 h0 (by omega), Option.bind_some]
  simp only
  rw [F43_eq k a10 _ k10 (by omega) hB]; rfl
theorem F18_eq (k : Nat) (a0 a1 a2 a3 a4 : Int) (a5 a6 a7 a8 : Bool) (a9 : List (den rng)) (a10 : List (den (.int .u8))) (x : Int) (k9 : a9.length < k) (k10 : a10.length < k) (h0 : 0 ≤ x) (hB : x + 2 * (a9.length : Int) + (a10.length : Int) ≤ 1099511627776) :
    F18 k a0 a1 a2 a3 a4 a5 a6 a7 a8 (marks gR (fun _ => 2) x a9) (marks gB (fun _ => 1) (x + 2 * (a9.length : Int)) a10) x = some (x + 2 * (a9.length : Int) + (a10.length : Int)) := by
  simp only [F18, F18_T]
  rw [F72_eq k a9 x k9 h0 (by omega), Option.bind_some, decide_eq_false (by omega : ¬ x + 2 * (a9.length : Int) < 0), cond_false,
    F73_eq k a10 _ k10 (by omega) hB, Option.bind_some, decide_eq_false (by omega : ¬ x + 2 * (a9.length : Int) + (a10.length : Int) < 0), cond_false]

/-! ### joined -/
/-- it answers, and its lists are short -/
def Sm (o : Option (Int × Int × Int × Int × Int × Bool × Bool × Bool × Bool × List (den rng) × List (den (.int .u8)) × Bool)) : Prop :=
  ∃ (r0 r1 r2 r3 r4 : Int) (r5 r6 r7 r8 : Bool) (r9 : List (den rng)) (r10 : List (den (.int .u8))) (b : Bool), o = some (r0, r1, r2, r3, r4, r5, r6, r7, r8, r9, r10, b) ∧ r9.length ≤ 1048576 ∧ r10.length ≤ 2097152
theorem Sm.cond {c : Bool} {a b} (h1 : Sm a) (h2 : Sm b) : Sm (cond c a b) := by cases c <;> assumption
theorem Sm.zero : Sm (some (0, 0, 0, 0, 0, false, false, false, false, [], [], false)) := ⟨0, 0, 0, 0, 0, false, false, false, false, [], [], false, rfl, by simp, by simp⟩
theorem spec_join (k : Nat) (a0 a1 a2 a3 a4 : Int) (a5 a6 a7 a8 : Bool) (a9 : List (den rng)) (a10 : List (den (.int .u8))) (b0 b1 b2 b3 b4 : Int) (b5 b6 b7 b8 : Bool) (b9 : List (den rng)) (b10 : List (den (.int .u8))) (h9 : a9.length ≤ 1048576) (h10 : a10.length ≤ 1048576) (g9 : b9.length ≤ 1048576) (g10 : b10.length ≤ 1048576) (k9 : a9.length < k) (l9 : b9.length < k) :
    Sm (F13 k a0 a1 a2 a3 a4 a5 a6 a7 a8 a9 a10 b0 b1 b2 b3 b4 b5 b6 b7 b8 b9 b10) := by
  simp only [F13, F13_T, F59_eq k a0 a1 a2 a3 a4 a5 a6 a7 a8 a9 a10 h9 k9, F59_eq k b0 b1 b2 b3 b4 b5 b6 b7 b8 b9 b10 g9 l9, F60_eq k a0 a1 a2 a3 a4 a5 a6 a7 a8 a9 a10 b0 b1 b2 b3 b4 b5 b6 b7 b8 b9 b10 (by omega) k9,
    F62_eq k a0 a1 a2 a3 a4 a5 a6 a7 a8 a9 a10 h10, F61_val, F63_eq k a0 a1 a2 a3 a4 a5 a6 a7 a8 a9 a10 (by omega) (by omega), Option.bind_some, bind_cond]
  rw [decide_eq_true (by omega : (a10.length + b10.length) * 1 ≤ 140737488355328)]
  simp only [cond_true]
  have hlast : Sm (some (a0, a1, a2, a3, a4, a5, a6, b7, a8, a9, a10 ++ b10, true)) := ⟨a0, a1, a2, a3, a4, a5, a6, b7, a8, a9, a10 ++ b10, true, rfl, h9, by simp; omega⟩
  repeat (first | exact Sm.zero | exact hlast | refine Sm.cond ?_ ?_)
theorem join_eq (n : Nat) (a0 a1 a2 a3 a4 : Int) (a5 a6 a7 a8 : Bool) (a9 : List (den rng)) (a10 : List (den (.int .u8))) (b0 b1 b2 b3 b4 : Int) (b5 b6 b7 b8 : Bool) (b9 : List (den rng)) (b10 : List (den (.int .u8))) (ha : -9223372036854775808 ≤ a2 ∧ a2 ≤ 9223372036854775807) (h9 : a9.length ≤ 1048576) (h10 : a10.length ≤ 1048576) (g9 : b9.length ≤ 1048576) (g10 : b10.length ≤ 1048576) (k9 : a9.length < n + 4) (l9 : b9.length < n + 4) :
    F15 (n + 4) a0 a1 a2 a3 a4 a5 a6 a7 a8 a9 a10 b0 b1 b2 b3 b4 b5 b6 b7 b8 b9 b10 = F13 (n + 4) a0 a1 a2 a3 a4 a5 a6 a7 a8 a9 a10 b0 b1 b2 b3 b4 b5 b6 b7 b8 b9 b10 := by
  have hseq : okS a0 a1 a2 a3 a4 a5 a6 a7 a8 a9 a10 = true → F67 (n + 4) (IntKind.i64.wrap (a2 + longS a5 a7 a10)) = some (seqOf (IntKind.i64.wrap (a2 + longS a5 a7 a10))) := by
    intro h
    refine F67_val _ _ ?_
    have h2 : inB a2 0 65535 = true := by
      unfold okS at h
      simp only [Bool.and_eq_true] at h
      exact h.1.1.1.1.1.2
    unfold inB at h2
    simp only [Bool.and_eq_true, decide_eq_true_eq] at h2
    have : 0 ≤ longS a5 a7 a10 ∧ longS a5 a7 a10 ≤ 1048578 := by unfold longS; split <;> split <;> omega
    rw [i64_in _ (by omega)]
    omega
  simp only [F13, F13_T, F15, F15_T, F59_eq (n + 4) a0 a1 a2 a3 a4 a5 a6 a7 a8 a9 a10 h9 k9, F59_eq (n + 4) b0 b1 b2 b3 b4 b5 b6 b7 b8 b9 b10 g9 l9, F65_eq (n + 4) a0 a1 a2 a3 a4 a5 a6 a7 a8 a9 a10 h9 k9, F65_eq (n + 4) b0 b1 b2 b3 b4 b5 b6 b7 b8 b9 b10 g9 l9,
    F60_eq (n + 4) a0 a1 a2 a3 a4 a5 a6 a7 a8 a9 a10 b0 b1 b2 b3 b4 b5 b6 b7 b8 b9 b10 (by omega) k9, F66_eq (n + 4) a9 b9 (by omega) k9, F62_eq (n + 4) a0 a1 a2 a3 a4 a5 a6 a7 a8 a9 a10 h10, F49_eq (n + 4) a0 a1 a2 a3 a4 a5 a6 a7 a8 a9 a10 h10, F61_val, Option.bind_some, bind_cond]
  cases hok : okS a0 a1 a2 a3 a4 a5 a6 a7 a8 a9 a10 with
  | false => rfl
  | true =>
    rw [hseq hok]
    have e1 := F68_eq (n + 4) a0 a1 a2 a3 a4 a5 a6 a7 a8 a9 a10 (by omega) (by omega)
    have e2 := F69_eq n a10 b10 h10 g10
    have e3 := F63_eq (n + 4) a0 a1 a2 a3 a4 a5 a6 a7 a8 a9 a10 (by omega) (by omega)
    have e4 := F68_eq (n + 4) a0 a1 a2 a3 a4 a5 a6 b7 a8 a9 (a10 ++ b10) (by omega) (by simp; omega)
    simp only [e1, e2, e3, e4, Option.bind_some]
    rw [decide_eq_true (by omega : (a10.length + b10.length) * 1 ≤ 140737488355328)]
    rfl
theorem bs {α β : Type} {o : Option α} {f : α → Option β} {x : α} (h : o = some x) : o.bind f = f x := by rw [h]; rfl
theorem cf {α : Type} {c : Bool} {a b : α} (h : c = false) : cond c a b = b := by rw [h]; rfl
theorem ct {α : Type} {c : Bool} {a b : α} (h : c = true) : cond c a b = a := by rw [h]; rfl
theorem F3_true (a0 a1 a2 a3 a4 : Int) (a5 a6 a7 a8 : Bool) (a9 : List (den rng)) (a10 : List (den (.int .u8))) (b0 b1 b2 b3 b4 : Int) (b5 b6 b7 b8 : Bool) (b9 : List (den rng)) (b10 : List (den (.int .u8))) (ha : -9223372036854775808 ≤ a2 ∧ a2 ≤ 9223372036854775807) (h9 : a9.length ≤ maxLen) (h10 : a10.length ≤ maxLen) (g9 : b9.length ≤ maxLen) (g10 : b10.length ≤ maxLen) :
    F3 (a9.length + a10.length + b9.length + b10.length + 4000000 + 4) a0 a1 a2 a3 a4 a5 a6 a7 a8 a9 a10 b0 b1 b2 b3 b4 b5 b6 b7 b8 b9 b10 = some true := by
  generalize hk : a9.length + a10.length + b9.length + b10.length + 4000000 = n
  unfold F3 F3_T
  have z1 := F12_eq (n + 4) a0 a1 a2 a3 a4 a5 a6 a7 a8 a9 a10 1048576 h9 h10 (by omega)
  by_cases hs0 : ¬ (a9.length : Int) + (a10.length : Int) ≤ 1048576
  · rw [if_neg hs0] at z1
    exact (bs z1).trans (ct rfl)
  have hs1 := Classical.not_not.1 hs0
  rw [if_pos hs1] at z1
  have z2 := F12_eq (n + 4) b0 b1 b2 b3 b4 b5 b6 b7 b8 b9 b10 (1048576 - (a9.length : Int) - (a10.length : Int)) g9 g10 (by omega)
  refine (bs z1).trans ?_
  refine (cf (decide_eq_false (by omega))).trans ?_
  by_cases hs3 : ¬ (b9.length : Int) + (b10.length : Int) ≤ 1048576 - (a9.length : Int) - (a10.length : Int)
  · rw [if_neg hs3] at z2
    exact (bs z2).trans (ct rfl)
  have hs2 := Classical.not_not.1 hs3
  rw [if_pos hs2] at z2
  refine (bs z2).trans ?_
  refine (cf (decide_eq_false (by omega))).trans ?_
  have ca := F14_eq (n + 4) a0 a1 a2 a3 a4 a5 a6 a7 a8 a9 a10 (by omega) (by omega) (by omega) (by omega)
  have cb := F14_eq (n + 4) b0 b1 b2 b3 b4 b5 b6 b7 b8 b9 b10 (by omega) (by omega) (by omega) (by omega)
  have hj := join_eq n a0 a1 a2 a3 a4 a5 a6 a7 a8 a9 a10 b0 b1 b2 b3 b4 b5 b6 b7 b8 b9 b10 ha (by omega) (by omega) (by omega) (by omega) (by omega) (by omega)
  obtain ⟨r0, r1, r2, r3, r4, r5, r6, r7, r8, r9, r10, b, hsj, s9, s10⟩ := spec_join (n + 4) a0 a1 a2 a3 a4 a5 a6 a7 a8 a9 a10 b0 b1 b2 b3 b4 b5 b6 b7 b8 b9 b10 (by omega) (by omega) (by omega) (by omega) (by omega) (by omega)
  rw [hsj] at hj
  have eqr := F16_self (n + 4) r0 r1 r2 r3 r4 r5 r6 r7 r8 r9 r10 (by omega) (by omega) (by omega) (by omega)
  have eqa := F16_self (n + 4) a0 a1 a2 a3 a4 a5 a6 a7 a8 a9 a10 (by omega) (by omega) (by omega) (by omega)
  have eqb := F16_self (n + 4) b0 b1 b2 b3 b4 b5 b6 b7 b8 b9 b10 (by omega) (by omega) (by omega) (by omega)
  have ma := F17_eq (n + 4) a0 a1 a2 a3 a4 a5 a6 a7 a8 a9 a10 1 (by omega) (by omega) (by omega) (by omega)
  have mb := F17_eq (n + 4) b0 b1 b2 b3 b4 b5 b6 b7 b8 b9 b10 (1 + 2 * (a9.length : Int) + (a10.length : Int)) (by omega) (by omega) (by omega) (by omega)
  have mr := F17_eq (n + 4) r0 r1 r2 r3 r4 r5 r6 r7 r8 r9 r10 1 (by omega) (by omega) (by omega) (by omega)
  have hr := F18_eq (n + 4) r0 r1 r2 r3 r4 r5 r6 r7 r8 r9 r10 1 (by omega) (by omega) (by omega) (by omega)
  have p1 : decide (1 + 2 * (a9.length : Int) + (a10.length : Int) + 2 * (b9.length : Int) + (b10.length : Int) < 0) = false := decide_eq_false (by omega)
  have p2 : decide (1 + 2 * (r9.length : Int) + (r10.length : Int) < 0) = false := decide_eq_false (by omega)
  have p3 : (!(b == b)) = false := by simp
  have p4 : (1 + 2 * (r9.length : Int) + (r10.length : Int) != 1 + 2 * (r9.length : Int) + (r10.length : Int)) = false := by simp
  refine (bs ca).trans ?_
  refine (bs cb).trans ?_
  refine (bs hsj).trans ?_
  refine (bs ca).trans ?_
  refine (bs cb).trans ?_
  refine (bs hj).trans ?_
  refine (bs eqr).trans ?_
  refine (cf rfl).trans ?_
  refine (cf p3).trans ?_
  refine (bs ca).trans ?_
  refine (bs eqa).trans ?_
  refine (cf rfl).trans ?_
  refine (bs cb).trans ?_
  refine (bs eqb).trans ?_
  refine (cf rfl).trans ?_
  refine (bs ma).trans ?_
  refine (bs mb).trans ?_
  refine (cf p1).trans ?_
  refine (bs eqr).trans ?_
  refine (cf rfl).trans ?_
  refine (cf p3).trans ?_
  refine (bs mr).trans ?_
  refine (bs hr).trans ?_
  refine (cf p2).trans ?_
  refine (cf p4).trans ?_
  refine (bs ca).trans ?_
  refine (bs cb).trans ?_
  refine (bs hj).trans ?_
  refine (bs eqr).trans ?_
  refine (cf rfl).trans ?_
  refine (cf p3).trans ?_
  refine (bs hr).trans ?_
  refine (cf p2).trans ?_
  exact (cf p4).trans rfl
theorem pure3 (x : den seg) (hx : Wf seg x) (y : den seg) (hy : Wf seg y) :
    ∃ k, (∀ x y : den seg, Contract Try.prog 3 [.agg ((Rf.enc .ro seg x).map .l), .agg ((Rf.enc .ro seg y).map .l)] ⟨F3 k x.1 x.2.1 x.2.2.1 x.2.2.2.1 x.2.2.2.2.1 x.2.2.2.2.2.1 x.2.2.2.2.2.2.1 x.2.2.2.2.2.2.2.1 x.2.2.2.2.2.2.2.2.1 x.2.2.2.2.2.2.2.2.2.1 x.2.2.2.2.2.2.2.2.2.2 y.1 y.2.1 y.2.2.1 y.2.2.2.1 y.2.2.2.2.1 y.2.2.2.2.2.1 y.2.2.2.2.2.2.1 y.2.2.2.2.2.2.2.1 y.2.2.2.2.2.2.2.2.1 y.2.2.2.2.2.2.2.2.2.1 y.2.2.2.2.2.2.2.2.2.2, fun r => (.one (.v (.bool r)), [])⟩) ∧ F3 k x.1 x.2.1 x.2.2.1 x.2.2.2.1 x.2.2.2.2.1 x.2.2.2.2.2.1 x.2.2.2.2.2.2.1 x.2.2.2.2.2.2.2.1 x.2.2.2.2.2.2.2.2.1 x.2.2.2.2.2.2.2.2.2.1 x.2.2.2.2.2.2.2.2.2.2 y.1 y.2.1 y.2.2.1 y.2.2.2.1 y.2.2.2.2.1 y.2.2.2.2.2.1 y.2.2.2.2.2.2.1 y.2.2.2.2.2.2.2.1 y.2.2.2.2.2.2.2.2.1 y.2.2.2.2.2.2.2.2.2.1 y.2.2.2.2.2.2.2.2.2.2 = some true := by
  obtain ⟨x0, x1, x2, x3, x4, x5, x6, x7, x8, x9, x10⟩ := x
  obtain ⟨y0, y1, y2, y3, y4, y5, y6, y7, y8, y9, y10⟩ := y
  obtain ⟨_, _, w2, _, _, _, _, _, _, w9, w10⟩ := hx
  obtain ⟨_, _, _, _, _, _, _, _, _, v9, v10⟩ := hy
  have hw : -9223372036854775808 ≤ x2 ∧ x2 ≤ 9223372036854775807 := by
    have : (Lit.int .i64 x2).wf = true := w2
    simp [Lit.wf, IntKind.min, IntKind.max, IntKind.signed, IntKind.bits] at this
    omega
  exact ⟨_, fun x y => F3_con _ x.1 x.2.1 x.2.2.1 x.2.2.2.1 x.2.2.2.2.1 x.2.2.2.2.2.1 x.2.2.2.2.2.2.1 x.2.2.2.2.2.2.2.1 x.2.2.2.2.2.2.2.2.1 x.2.2.2.2.2.2.2.2.2.1 x.2.2.2.2.2.2.2.2.2.2 y.1 y.2.1 y.2.2.1 y.2.2.2.1 y.2.2.2.2.1 y.2.2.2.2.2.1 y.2.2.2.2.2.2.1 y.2.2.2.2.2.2.2.1 y.2.2.2.2.2.2.2.2.1 y.2.2.2.2.2.2.2.2.2.1 y.2.2.2.2.2.2.2.2.2.2, F3_true x0 x1 x2 x3 x4 x5 x6 x7 x8 x9 x10 y0 y1 y2 y3 y4 y5 y6 y7 y8 y9 y10 hw w9.1 w10.1 v9.1 v10.1⟩
end Go.Proofs.Ytkkgcidigiokfaa.Gn
end
