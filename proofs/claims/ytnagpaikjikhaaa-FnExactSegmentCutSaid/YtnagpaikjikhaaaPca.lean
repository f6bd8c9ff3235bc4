/-
  What the functions that the law reaches answer. (A part of the proofs of this seat.)
-/
import Derived.Test.YtnagpaikjikhaaaGcb
import Derived.Test.YtnagpaikjikhaaaRc

section
set_option linter.unusedVariables false
set_option linter.unusedSimpArgs false
/-
  What rows of ranges and bytes answer: the plain functions, in plain words.
-/
namespace Go.Proofs.Ytnagpaikjikhaaa.Gn
open Go.Rf Go.IntWalk

def inB (a b c : Int) : Bool := decide (b ≤ a) && decide (a ≤ c)
theorem F51_eq (k : Nat) (a b c : Int) : F51 k a b c = some (inB a b c) := by
  unfold F51 inB
  have : decide (a ≥ b) = decide (b ≤ a) := rfl
  rw [this]
  cases decide (b ≤ a) <;> rfl
theorem F45_eq (k : Nat) (a b c : Int) : F45 k a b c = some (inB a b c) := F51_eq k a b c
theorem F54_eq (k : Nat) (a : Int) : F54 k a = some (inB a 1 255) := by unfold F54; rw [F45_eq]; rfl
theorem F55_eq (k : Nat) (a : Int) : F55 k a = some (inB a 0 65535) := by unfold F55; rw [F45_eq]; rfl
abbrev u8L : Type := List (den (.int .u8))
abbrev rgL : Type := List (den rng)
theorem ml : maxLen = 9223372036854775807 := rfl
theorem F65_eq (k : Nat) (l : rgL) (x : Int) (hl : l.length ≤ maxLen) (hx : 0 ≤ x ∧ x ≤ 1048576) : F65 k l x = some (if (l.length : Int) ≤ x then x - (l.length : Int) else -1) := by
  simp only [F65, F65_T]
  rw [ml] at hl
  rw [i64_in _ (by omega)]
  by_cases h : (l.length : Int) ≤ x
  · rw [decide_eq_false (by omega), if_pos h]; rfl
  · rw [decide_eq_true (by omega), if_neg h]; rfl
theorem F66_eq (k : Nat) (l : u8L) (x : Int) (hl : l.length ≤ maxLen) (hx : 0 ≤ x ∧ x ≤ 1048576) : F66 k l x = some (if (l.length : Int) ≤ x then x - (l.length : Int) else -1) := by
  simp only [F66, F66_T]
  rw [ml] at hl
  rw [i64_in _ (by omega)]
  by_cases h : (l.length : Int) ≤ x
  · rw [decide_eq_false (by omega), if_pos h]; rfl
  · rw [decide_eq_true (by omega), if_neg h]; rfl
theorem F67_eq (k : Nat) (l : rgL) (hl : l.length ≤ 1048576) (hk : l.length < k) : F67 k l = some l := by
  have := copyLoop l id (fun n j m => F67_l0 k l n j m) id
    (fun n j m h hm => by
      simp only [F67_l0, F67_l0_T]
      rw [atI_get l j h, up1 j (by omega), F93]
      simp only [Option.bind_some]
      rw [decide_eq_true (by omega : ((j : Nat) : Int) < (l.length : Nat)), decide_eq_true (by omega : (0 : Int) ≤ (j : Nat)), decide_eq_true (by omega : ((j : Nat) : Int) < (m.length : Nat))]
      rfl)
    (fun n m hm => by simp [F67_l0, F67_l0_T]) k 0 (List.replicate l.length (dflt rng)) (Nat.zero_le _) (by omega) (by simp) (by simp)
  simp only [List.map_id] at this
  simp only [F67, F67_T]
  rw [decide_eq_true (by omega : (0 : Int) ≤ ((l.length : Nat) : Int)), decide_eq_true (by omega : ((l.length : Nat) : Int) * (16 : Nat) ≤ 140737488355328)]
  simp only [decide_true, Bool.and_self, cond_true]
  exact this
theorem F38_eq (k : Nat) (l : u8L) (hl : l.length ≤ 1048576) (hk : l.length < k) : F38 k l = some l := by
  have := copyLoop l id (fun n j m => F38_l0 k l n j m) id
    (fun n j m h hm => by
      simp only [F38_l0, F38_l0_T]
      rw [atI_get l j h, up1 j (by omega)]
      rw [decide_eq_true (by omega : ((j : Nat) : Int) < (l.length : Nat)), decide_eq_true (by omega : (0 : Int) ≤ (j : Nat)), decide_eq_true (by omega : ((j : Nat) : Int) < (m.length : Nat))]
      rfl)
    (fun n m hm => by simp [F38_l0, F38_l0_T]) k 0 (List.replicate l.length (dflt (.int .u8))) (Nat.zero_le _) (by omega) (by simp) (by simp)
  simp only [List.map_id] at this
  simp only [F38, F38_T]
  rw [decide_eq_true (by omega : (0 : Int) ≤ ((l.length : Nat) : Int)), decide_eq_true (by omega : ((l.length : Nat) : Int) * (1 : Nat) ≤ 140737488355328)]
  simp only [decide_true, Bool.and_self, cond_true]
  exact this
theorem some_cond {α : Type} (c : Bool) (a b : α) : cond c (some a) (some b) = some (cond c a b) := by cases c <;> rfl
theorem F48_eq (k : Nat) (a : Int) (h : -9223372036854775808 ≤ a ∧ a ≤ 9223372036854775807) : F48 k a = F53 k a := by
  unfold F48 F53
  have hm := Int.tmod_lt_of_pos a (show (0 : Int) < 65536 by omega)
  have hm2 : -65536 < a.tmod 65536 := by
    have := Int.tmod_lt_of_pos (-a) (show (0 : Int) < 65536 by omega)
    rw [Int.neg_tmod] at this
    omega
  rw [i64_in _ (by omega)]
  by_cases hn : a.tmod 65536 < 0
  · rw [decide_eq_true hn, cond_true]
    congr 1
    rw [Int.tmod_eq_of_lt (by omega) (by omega)]
  · rw [decide_eq_false hn, cond_false]
    congr 1
    have : (a.tmod 65536 + 65536).tmod 65536 = a.tmod 65536 := by
      rw [Int.tmod_eq_emod_of_nonneg (by omega), Int.add_emod_right, Int.emod_eq_of_lt (by omega) hm]
    exact this

def seqOf (a : Int) : Int := cond (decide (a.tmod 65536 < 0)) (IntKind.i64.wrap (a.tmod 65536 + 65536)) (a.tmod 65536)
theorem F53_val (k : Nat) (a : Int) : F53 k a = some (seqOf a) := by unfold F53 seqOf; rw [some_cond]
theorem F48_val (k : Nat) (a : Int) (h : -9223372036854775808 ≤ a ∧ a ≤ 9223372036854775807) : F48 k a = some (seqOf a) := by rw [F48_eq k a h, F53_val]
theorem F113_eq (k : Nat) (l : rgL) : F113 k l = some l := by
  simp only [F113, F113_T]
  rw [decide_eq_true (by omega : (0 : Int) ≤ ((l.length : Nat) : Int))]
  simp
theorem F114_eq (k : Nat) (l : u8L) : F114 k l = some l := by
  simp only [F114, F114_T]
  rw [decide_eq_true (by omega : (0 : Int) ≤ ((l.length : Nat) : Int))]
  simp
theorem F87_eq (k : Nat) (l : rgL) (h : l.length ≤ 4194304) : F87 k l = some l := by
  simp only [F87, F87_T, F113_eq, List.nil_append, List.length_nil, Nat.zero_add]
  rw [decide_eq_true (by omega : l.length * 16 ≤ 140737488355328)]
  cases l with
  | nil => rfl
  | cons a r => rw [show ((((a :: r).length : Nat) : Int) == 0) = false by rw [beq_eq_false_iff_ne]; simp only [List.length_cons]; omega]; rfl
theorem F88_eq (k : Nat) (l : u8L) (h : l.length ≤ 4194304) : F88 k l = some l := by
  simp only [F88, F88_T, F114_eq, List.nil_append, List.length_nil, Nat.zero_add]
  rw [decide_eq_true (by omega : l.length * 1 ≤ 140737488355328)]
  cases l with
  | nil => rfl
  | cons a r => rw [show ((((a :: r).length : Nat) : Int) == 0) = false by rw [beq_eq_false_iff_ne]; simp only [List.length_cons]; omega]; rfl
theorem eqD_rng (a b : den rng) : eqD rng a b = decide (a = b) := by
  obtain ⟨a1, a2⟩ := a
  obtain ⟨b1, b2⟩ := b
  simp only [eqD]
  have e : ((a1, a2) = (b1, b2)) ↔ (a1 = b1 ∧ a2 = b2) := Prod.mk.injEq .. ▸ Iff.rfl
  by_cases h1 : a1 = b1 <;> by_cases h2 : a2 = b2 <;> simp [h1, h2, e]
theorem F68_self (k : Nat) (a : rgL) (h9 : a.length ≤ 4194304) (k9 : a.length < k) : F68 k a a = some true := by
  have := foldLoop a (fun n (_ : Unit) j => F68_l0 k a a n j) (fun s _ => s) (fun _ => true)
    (fun n s j h => by
      simp only [F68_l0, F68_l0_T]
      rw [atI_get a j h, up1 j (by omega), F94]
      simp [h])
    (fun n s => by simp [F68_l0, F68_l0_T]) k () 0 (Nat.zero_le _) (by omega)
  simp only [F68, F68_T, bne_self_eq_false, cond_false]
  exact this
theorem F31_self (k : Nat) (a : u8L) (h9 : a.length ≤ 4194304) (k9 : a.length < k) : F31 k a a = some true := by
  have := foldLoop a (fun n (_ : Unit) j => F31_l0 k a a n j) (fun s _ => s) (fun _ => true)
    (fun n s j h => by
      simp only [F31_l0, F31_l0_T]
      rw [atI_get a j h, up1 j (by omega)]
      simp [h])
    (fun n s => by simp [F31_l0, F31_l0_T]) k () 0 (Nat.zero_le _) (by omega)
  simp only [F31, F31_T, bne_self_eq_false, cond_false]
  exact this
def gR (x : Int) (a : den rng) : den rng := (x, x + 1)
def gB (x : Int) (a : den (.int .u8)) : den (.int .u8) := IntKind.u8.wrap x
theorem F69_eq (k : Nat) (l : rgL) (x : Int) (hk : l.length < k) (h0 : 0 ≤ x) (hB : x + 2 * (l.length : Int) ≤ 1099511627776) :
    F69 k l x = some (x + 2 * (l.length : Int), marks gR (fun _ => 2) x l) := by
  have := markLoop 1099511627776 l.length (fun n y j m => F69_l0 k l x n y j m) gR (fun _ => 2) (fun x m => (x, m)) (fun _ => by decide)
    (fun n y j m h hN h0 hB => by
      simp only [F69_l0, F69_l0_T, List.length_set, Int.toNat_natCast]
      rw [up1 j (by omega), i64_in (y + 1) (by omega), i64_in (y + 1 + 1) (by omega), List.set_set]
      rw [decide_eq_true (by omega : ((j : Nat) : Int) < (m.length : Nat)), decide_eq_true (by omega : (0 : Int) ≤ (j : Nat))]
      rw [atI_get (m.set j (y, (atI m (j : Int)).2)) j (by simpa using h)]
      simp only [List.getElem_set_self, cond_true]
      rw [Int.add_assoc]; rfl)
    (fun n x m => by simp [F69_l0, F69_l0_T]) k x [] l (by simp) hk h0 (by rw [sumS_const]; exact hB)
  rw [sumS_const] at this
  simp only [F69, F69_T]
  exact this
theorem F32_eq (k : Nat) (l : u8L) (x : Int) (hk : l.length < k) (h0 : 0 ≤ x) (hB : x + (l.length : Int) ≤ 1099511627776) :
    F32 k l x = some (x + (l.length : Int), marks gB (fun _ => 1) x l) := by
  have := markLoop 1099511627776 l.length (fun n y j m => F32_l0 k l x n y j m) gB (fun _ => 1) (fun x m => (x, m)) (fun _ => by decide)
    (fun n y j m h hN h0 hB => by
      simp only [F32_l0, F32_l0_T, Int.toNat_natCast]
      rw [up1 j (by omega), i64_in (y + 1) (by omega)]
      rw [decide_eq_true (by omega : ((j : Nat) : Int) < (m.length : Nat)), decide_eq_true (by omega : (0 : Int) ≤ (j : Nat))]
      rfl)
    (fun n x m => by simp [F32_l0, F32_l0_T]) k x [] l (by simp) hk h0 (by rw [sumS_const]; omega)
  rw [sumS_const, Int.one_mul] at this
  simp only [F32, F32_T]
  exact this
theorem F70_eq (k : Nat) (l : rgL) (x : Int) (hk : l.length < k) (h0 : 0 ≤ x) (hB : x + 2 * (l.length : Int) ≤ 1099511627776) :
    F70 k (marks gR (fun _ => 2) x l) x = some (x + 2 * (l.length : Int)) := by
  have hlen := marks_len gR (fun _ => 2) x l
  have hsum := sumS_marks (g := gR) (s := fun _ => 2) (fun _ _ => rfl) x l
  rw [sumS_const 2 l] at hsum
  have hh := Helds_marks (t := fun x a => a = ((x, x + 1) : Int × Int)) (g := gR) (s := fun _ => 2) (fun _ _ => rfl) (fun _ _ => rfl) x l
  have h9 := sumS_const 2 (marks gR (fun _ => 2) x l)
  generalize marks gR (fun _ => 2) x l = m at hlen hsum hh h9
  have := heldLoop 1099511627776 m (fun n y j => F70_l0 k m x n y j) (fun x a => a = ((x, x + 1) : Int × Int)) (fun _ => 2) (fun x => x) (fun _ => by decide)
    (fun n y j h ht h0 hB => by
      simp only [F70_l0, F70_l0_T]
      rw [up1 j (by omega), i64_in (y + 1) (by omega), i64_in (y + 1 + 1) (by omega), atI_get m j h, ht]
      rw [decide_eq_true (by omega : ((j : Nat) : Int) < (m.length : Nat)), decide_eq_true (by omega : (0 : Int) ≤ (j : Nat))]
      simp only [bne_self_eq_false, cond_true, cond_false]
      rw [Int.add_assoc]; rfl)
    (fun n y => by simp [F70_l0, F70_l0_T]) k x 0 (Nat.zero_le _) (by omega) h0 (by rw [List.drop_zero, hsum]; exact hB) (by rw [List.drop_zero]; exact hh)
  rw [List.drop_zero, hsum] at this
  simp only [F70, F70_T]
  exact this
theorem F33_eq (k : Nat) (l : u8L) (x : Int) (hk : l.length < k) (h0 : 0 ≤ x) (hB : x + (l.length : Int) ≤ 1099511627776) :
    F33 k (marks gB (fun _ => 1) x l) x = some (x + (l.length : Int)) := by
  have hlen := marks_len gB (fun _ => 1) x l
  have hsum := sumS_marks (g := gB) (s := fun _ => 1) (fun _ _ => rfl) x l
  rw [sumS_const 1 l, Int.one_mul] at hsum
  have hh := Helds_marks (t := fun x a => a = IntKind.u8.wrap x) (g := gB) (s := fun _ => 1) (fun _ _ => rfl) (fun _ _ => rfl) x l
  have h9 := sumS_const 1 (marks gB (fun _ => 1) x l)
  generalize marks gB (fun _ => 1) x l = m at hlen hsum hh h9
  have := heldLoop 1099511627776 m (fun n y j => F33_l0 k m x n y j) (fun x a => a = IntKind.u8.wrap x) (fun _ => 1) (fun x => x) (fun _ => by decide)
    (fun n y j h ht h0 hB => by
      simp only [F33_l0, F33_l0_T]
      rw [up1 j (by omega), i64_in (y + 1) (by omega), atI_get m j h, ht]
      rw [decide_eq_true (by omega : ((j : Nat) : Int) < (m.length : Nat)), decide_eq_true (by omega : (0 : Int) ≤ (j : Nat))]
      simp only [bne_self_eq_false, cond_true, cond_false])
    (fun n y => by simp [F33_l0, F33_l0_T]) k x 0 (Nat.zero_le _) (by omega) h0 (by rw [List.drop_zero, hsum]; exact hB) (by rw [List.drop_zero]; exact hh)
  rw [List.drop_zero, hsum] at this
  simp only [F33, F33_T]
  exact this
theorem bs {α β : Type} {o : Option α} {f : α → Option β} {x : α} (h : o = some x) : o.bind f = f x := by rw [h]; rfl
theorem cf {α : Type} {c : Bool} {a b : α} (h : c = false) : cond c a b = b := by rw [h]; rfl
theorem ct {α : Type} {c : Bool} {a b : α} (h : c = true) : cond c a b = a := by rw [h]; rfl
abbrev Seg : Type := (Int × Int × Int × Int × Int × Bool × Bool × Bool × Bool × List (den rng) × List (den (.int .u8)))

theorem F22_eq (k : Nat) (a0 a1 a2 a3 a4 : Int) (a5 a6 a7 a8 : Bool) (a9 : List (den rng)) (a10 : List (den (.int .u8))) (x : Int) (h9 : a9.length ≤ maxLen) (h10 : a10.length ≤ maxLen) (hx : 0 ≤ x ∧ x ≤ 1048576) :
    F22 k a0 a1 a2 a3 a4 a5 a6 a7 a8 a9 a10 x = some (if (a9.length : Int) + (a10.length : Int) ≤ x then x - (a9.length : Int) - (a10.length : Int) else -1) := by
  simp only [F22, F22_T]
  rw [F65_eq k a9 x h9 hx, Option.bind_some]
  by_cases h : (a9.length : Int) ≤ x
  · rw [if_pos h, decide_eq_false (by omega), cond_false, F66_eq k a10 _ h10 (by omega), Option.bind_some]
    by_cases h2 : (a10.length : Int) ≤ x - (a9.length : Int)
    · rw [if_pos h2, decide_eq_false (by omega), if_pos (by omega)]; rfl
    · rw [if_neg h2, if_neg (by omega)]; rfl
  · rw [if_neg h, if_neg (by omega)]; rfl
theorem F23_eq (k : Nat) (a0 a1 a2 a3 a4 : Int) (a5 a6 a7 a8 : Bool) (a9 : List (den rng)) (a10 : List (den (.int .u8))) (h9 : a9.length ≤ 1048576) (h10 : a10.length ≤ 1048576) (k9 : a9.length < k) (k10 : a10.length < k) : F23 k a0 a1 a2 a3 a4 a5 a6 a7 a8 a9 a10 = some (a0, a1, a2, a3, a4, a5, a6, a7, a8, a9, a10) := by
  simp only [F23, F23_T]
  rw [F67_eq k a9 h9 k9, F38_eq k a10 h10 k10]; rfl

def rgB (a : den rng) : Bool := inB a.1 0 65535 && inB a.2 0 65535
def okT (a3 a4 : Int) (a5 a6 a7 a8 : Bool) (a9 : rgL) (a10 : u8L) : Bool :=
  cond (!a6) (cond (a3 != 0) false (cond (a4 != 0) false (cond (decide (((a9.length : Nat) : Int) > 0)) false (cond (!a8) true (cond (!a5) (cond (!a7) (((a10.length : Nat) : Int) == 0) false) false)))))
    (cond (!a8) true (cond (!a5) (cond (!a7) (((a10.length : Nat) : Int) == 0) false) false))
def okS (a0 a1 a2 a3 a4 : Int) (a5 a6 a7 a8 : Bool) (a9 : List (den rng)) (a10 : List (den (.int .u8))) : Bool :=
  inB a0 1 255 && inB a1 1 255 && inB a2 0 65535 && inB a3 0 65535 && inB a4 0 255 && !(decide (((a9.length : Nat) : Int) > 2)) && !(decide (((a10.length : Nat) : Int) > 12)) && (a9.all rgB && okT a3 a4 a5 a6 a7 a8 a9 a10)
theorem F50_l (k : Nat) (a0 a1 a2 a3 a4 : Int) (a5 a6 a7 a8 : Bool) (a9 : List (den rng)) (a10 : List (den (.int .u8))) (h9 : a9.length ≤ 1048576) (k9 : a9.length < k) : F50_l0 k a0 a1 a2 a3 a4 a5 a6 a7 a8 a9 a10 k 0 = some (a9.all rgB && okT a3 a4 a5 a6 a7 a8 a9 a10) := by
  have := scanLoop a9 (fun n (_ : Unit) j => F50_l0 k a0 a1 a2 a3 a4 a5 a6 a7 a8 a9 a10 n j) (fun _ _ a => cond (rgB a) (.inl ()) (.inr false)) (fun _ => okT a3 a4 a5 a6 a7 a8 a9 a10)
    (fun n s j h => by
      simp only [F50_l0, F50_l0_T]
      rw [atI_get a9 j h, F51_eq, F51_eq, up1 j (by omega)]
      simp only [Option.bind_some]
      rw [decide_eq_true (by omega : ((j : Nat) : Int) < (a9.length : Nat)), decide_eq_true (by omega : (0 : Int) ≤ (j : Nat))]
      unfold rgB
      cases inB a9[j].1 0 65535 <;> cases inB a9[j].2 0 65535 <;> rfl)
    (fun n s => by
      simp only [F50_l0, F50_l0_T]
      rw [decide_eq_false (by omega : ¬ ((a9.length : Nat) : Int) < (a9.length : Nat))]
      simp only [cond_false, some_cond, okT]) k () 0 (Nat.zero_le _) (by omega)
  rw [scan_all, List.drop_zero] at this
  exact this
theorem F50_eq (k : Nat) (a0 a1 a2 a3 a4 : Int) (a5 a6 a7 a8 : Bool) (a9 : List (den rng)) (a10 : List (den (.int .u8))) (h9 : a9.length ≤ 1048576) (k9 : a9.length < k) : F50 k a0 a1 a2 a3 a4 a5 a6 a7 a8 a9 a10 = some (okS a0 a1 a2 a3 a4 a5 a6 a7 a8 a9 a10) := by
  simp only [F50, F50_T]
  rw [F50_l k a0 a1 a2 a3 a4 a5 a6 a7 a8 a9 a10 h9 k9]
  simp only [F51_eq, Option.bind_some, okS]
  cases inB a0 1 255 <;> try rfl
  cases inB a1 1 255 <;> try rfl
  cases inB a2 0 65535 <;> try rfl
  cases inB a3 0 65535 <;> try rfl
  cases inB a4 0 255 <;> try rfl
  cases decide (((a9.length : Nat) : Int) > 2) <;> try rfl
  cases decide (((a10.length : Nat) : Int) > 12) <;> rfl
theorem F57_eq (k : Nat) (a b : Int) : F57 k a b = some (!(rgB (a, b))) := by
  unfold F57 rgB
  rw [F55_eq, F55_eq]
  simp only [Option.bind_some]
  cases inB a 0 65535 <;> cases inB b 0 65535 <;> rfl
theorem F56_eq (k : Nat) (l : rgL) (h9 : l.length ≤ 1048576) (k9 : l.length < k) : F56 k l = some (!(l.all rgB)) := by
  have := scanLoop l (fun n (_ : Unit) j => F90_l0 k l n j) (fun _ j a => cond (rgB a) (.inl ()) (.inr (j : Int))) (fun _ => -1)
    (fun n s j h => by
      simp only [F90_l0, F90_l0_T]
      rw [atI_get l j h, F57_eq, up1 j (by omega)]
      simp only [Option.bind_some]
      rw [decide_eq_true (by omega : ((j : Nat) : Int) < (l.length : Nat)), decide_eq_true (by omega : (0 : Int) ≤ (j : Nat))]
      show cond true (cond true (cond true (cond (!rgB l[j]) _ _) _) _) _ = _
      cases rgB l[j] <;> rfl)
    (fun n s => by
      simp only [F90_l0, F90_l0_T]
      rw [decide_eq_false (by omega : ¬ ((l.length : Nat) : Int) < (l.length : Nat))]; rfl) k () 0 (Nat.zero_le _) (by omega)
  rw [List.drop_zero] at this
  have hs : ∀ (r : rgL) (j : Nat), (decide (scan (fun (_ : Unit) j a => cond (rgB a) (.inl ()) (.inr (j : Int))) (fun _ => (-1 : Int)) () j r ≥ 0)) = !(r.all rgB) := by
    intro r
    induction r with
    | nil => intro j; rfl
    | cons a r ih =>
      intro j
      rw [scan, List.all_cons]
      cases rgB a with
      | true => simpa using ih (j + 1)
      | false => simp
  simp only [F56, F90, F90_T]
  have this2 : F90_l0 k l k 0 = _ := this
  rw [this2, Option.bind_some, hs l 0]
theorem F14_eq (k : Nat) (a0 a1 a2 a3 a4 : Int) (a5 a6 a7 a8 : Bool) (a9 : List (den rng)) (a10 : List (den (.int .u8))) (h9 : a9.length ≤ 1048576) (k9 : a9.length < k) : F14 k a0 a1 a2 a3 a4 a5 a6 a7 a8 a9 a10 = some (okS a0 a1 a2 a3 a4 a5 a6 a7 a8 a9 a10) := by
  simp only [F14, F14_T]
  rw [F56_eq k a9 h9 k9]
  simp only [F54_eq, F55_eq, F45_eq, Option.bind_some, some_cond, okS]
  cases inB a0 1 255 <;> try rfl
  cases inB a1 1 255 <;> try rfl
  cases inB a2 0 65535 <;> try rfl
  cases inB a3 0 65535 <;> try rfl
  cases inB a4 0 255 <;> try rfl
  cases decide (((a9.length : Nat) : Int) > 2) <;> try rfl
  cases decide (((a10.length : Nat) : Int) > 12) <;> try rfl
  cases a9.all rgB <;> rfl

def longS (a5 a7 : Bool) (a10 : u8L) : Int := (a10.length : Int) + (if a5 then 1 else 0) + (if a7 then 1 else 0)
theorem F16_eq (k : Nat) (a0 a1 a2 a3 a4 : Int) (a5 a6 a7 a8 : Bool) (a9 : List (den rng)) (a10 : List (den (.int .u8))) (h : a10.length ≤ 1048576) : F16 k a0 a1 a2 a3 a4 a5 a6 a7 a8 a9 a10 = some (longS a5 a7 a10) := by
  simp only [F16, F16_T, longS, F59, some_cond, Option.bind_some]
  have e : ∀ c : Int, 0 ≤ c → c ≤ 10 → IntKind.i64.wrap ((a10.length : Int) + c) = (a10.length : Int) + c := fun c h1 h2 => i64_in _ (by omega)
  have e2 : ∀ c d : Int, 0 ≤ c → c ≤ 10 → 0 ≤ d → d ≤ 10 → IntKind.i64.wrap ((a10.length : Int) + c + d) = (a10.length : Int) + c + d := fun c d h1 h2 h3 h4 => i64_in _ (by omega)
  cases a5 <;> cases a7 <;> simp only [cond_true, cond_false, e 0 (by omega) (by omega), e 1 (by omega) (by omega), e2 0 0 (by omega) (by omega) (by omega) (by omega), e2 0 1 (by omega) (by omega) (by omega) (by omega), e2 1 0 (by omega) (by omega) (by omega) (by omega), e2 1 1 (by omega) (by omega) (by omega) (by omega)] <;> rfl
theorem F46_eq (k : Nat) (a0 a1 a2 a3 a4 : Int) (a5 a6 a7 a8 : Bool) (a9 : List (den rng)) (a10 : List (den (.int .u8))) (h9 : a9.length ≤ 4194304) (h10 : a10.length ≤ 4194304) : F46 k a0 a1 a2 a3 a4 a5 a6 a7 a8 a9 a10 = some (a0, a1, a2, a3, a4, a5, a6, a7, a8, a9, a10) := by
  simp only [F46, F46_T]
  rw [F87_eq k a9 h9, F88_eq k a10 h10]; rfl
theorem F52_eq (k : Nat) (a0 a1 a2 a3 a4 : Int) (a5 a6 a7 a8 : Bool) (a9 : List (den rng)) (a10 : List (den (.int .u8))) (h9 : a9.length ≤ 4194304) (h10 : a10.length ≤ 4194304) : F52 k a0 a1 a2 a3 a4 a5 a6 a7 a8 a9 a10 = some (a0, a1, a2, a3, a4, a5, a6, a7, a8, a9, a10) := by
  simp only [F52, F52_T, List.nil_append, List.length_nil, Nat.zero_add]
  rw [decide_eq_true (by omega : a9.length * 16 ≤ 140737488355328), decide_eq_true (by omega : a10.length * 1 ≤ 140737488355328)]; rfl
theorem F26_eq (k : Nat) (a0 a1 a2 a3 a4 : Int) (a5 a6 a7 a8 : Bool) (a9 : List (den rng)) (a10 : List (den (.int .u8))) (x : Int) (k9 : a9.length < k) (k10 : a10.length < k) (h0 : 0 ≤ x) (hB : x + 2 * (a9.length : Int) + (a10.length : Int) ≤ 1099511627776) :
    F26 k a0 a1 a2 a3 a4 a5 a6 a7 a8 a9 a10 x = some (x + 2 * (a9.length : Int) + (a10.length : Int), marks gR (fun _ => 2) x a9, marks gB (fun _ => 1) (x + 2 * (a9.length : Int)) a10) := by
  unfold F26
  rw [F69_eq k a9 x k9 h0 (by omega), Option.bind_some]
  simp only
  rw [F32_eq k a10 _ k10 (by omega) hB]; rfl
theorem F25_self (k : Nat) (a0 a1 a2 a3 a4 : Int) (a5 a6 a7 a8 : Bool) (a9 : List (den rng)) (a10 : List (den (.int .u8))) (h9 : a9.length ≤ 4194304) (h10 : a10.length ≤ 4194304) (k9 : a9.length < k) (k10 : a10.length < k) : F25 k a0 a1 a2 a3 a4 a5 a6 a7 a8 a9 a10 a0 a1 a2 a3 a4 a5 a6 a7 a8 a9 a10 = some true := by
  simp only [F25, F25_T, F68_self k a9 h9 k9, F31_self k a10 h10 k10, bne_self_eq_false, beq_self_eq_true, Bool.not_true, cond_false, Option.bind_some]
/-! ### rows of segments -/
abbrev sgL : Type := List (den seg)
/-- the weight of a segment: how many marks it bears -/
def wS (s : den seg) : Int := 9 + 2 * (s.2.2.2.2.2.2.2.2.2.1.length : Int) + (s.2.2.2.2.2.2.2.2.2.2.length : Int)
theorem wS_pos (s : den seg) : 0 ≤ wS s := by unfold wS; omega
/-- a segment marked -/
def gS (y : Int) (s : den seg) : den seg :=
  (y, y + 1, y + 2, y + 3, y + 4, (y + 5).tmod 3 == 0, (y + 6).tmod 3 == 0, (y + 7).tmod 3 == 0, (y + 8).tmod 3 == 0, marks gR (fun _ => 2) (y + 9) s.2.2.2.2.2.2.2.2.2.1,
    marks gB (fun _ => 1) (y + 9 + 2 * (s.2.2.2.2.2.2.2.2.2.1.length : Int)) s.2.2.2.2.2.2.2.2.2.2)
theorem wS_gS (y : Int) (s : den seg) : wS (gS y s) = wS s := by simp [wS, gS, marks_len]
/-- its rows are no longer than this -/
def shortS (n : Nat) (s : den seg) : Prop := s.2.2.2.2.2.2.2.2.2.1.length ≤ n ∧ s.2.2.2.2.2.2.2.2.2.2.length ≤ n
theorem markS_step (k : Nat) (a0 : sgL) (a1 : Int) (n : Nat) (y : Int) (j : Nat) (m : sgL) (N : Nat) (h : j < m.length) (hm : m.length ≤ 4194304) (h0 : 0 ≤ y) (hB : y + wS m[j] ≤ 1099511627776) (hs : shortS N m[j]) (hN : N < k) :
    F27_l0 k a0 a1 (n + 1) y (j : Int) m = F27_l0 k a0 a1 n (y + wS m[j]) ((j + 1 : Nat) : Int) (m.set j (gS y m[j])) := by
  rw [F27_l0]
  unfold F27_l0_T
  rw [atI_get m j h, up1 j (by omega)]
  generalize m[j] = s at *
  obtain ⟨s0, s1, s2, s3, s4, s5, s6, s7, s8, s9, s10⟩ := s
  obtain ⟨hs9, hs10⟩ := hs
  simp only [wS] at hB
  simp only at hs9 hs10
  have d1 : decide ((j : Int) < ((m.length : Nat) : Int)) = true := decide_eq_true (by omega)
  have d0 : decide ((0 : Int) ≤ ((j : Nat) : Int)) = true := decide_eq_true (by omega)
  have w0 : IntKind.i64.wrap (y + 1) = y + 1 := by rw [i64_in _ (by omega)]
  have w1 : IntKind.i64.wrap (y + 1 + 1) = y + 2 := by rw [i64_in _ (by omega)]; omega
  have w2 : IntKind.i64.wrap (y + 2 + 1) = y + 3 := by rw [i64_in _ (by omega)]; omega
  have w3 : IntKind.i64.wrap (y + 3 + 1) = y + 4 := by rw [i64_in _ (by omega)]; omega
  have w4 : IntKind.i64.wrap (y + 4 + 1) = y + 5 := by rw [i64_in _ (by omega)]; omega
  have w5 : IntKind.i64.wrap (y + 5 + 1) = y + 6 := by rw [i64_in _ (by omega)]; omega
  have w6 : IntKind.i64.wrap (y + 6 + 1) = y + 7 := by rw [i64_in _ (by omega)]; omega
  have w7 : IntKind.i64.wrap (y + 7 + 1) = y + 8 := by rw [i64_in _ (by omega)]; omega
  have w8 : IntKind.i64.wrap (y + 8 + 1) = y + 9 := by rw [i64_in _ (by omega)]; omega
  rw [w0, w1, w2, w3, w4, w5, w6, w7, w8]
  refine (ct d1).trans ?_
  refine (ct d0).trans ?_
  refine (ct d1).trans ?_
  refine (bs (x := m.set j (y, s1, s2, s3, s4, s5, s6, s7, s8, s9, s10)) (rfl)).trans ?_
  refine (ct d0).trans ?_
  refine (ct (by rw [List.length_set]; exact d1)).trans ?_
  refine (bs (x := m.set j (y, y + 1, s2, s3, s4, s5, s6, s7, s8, s9, s10)) (by rw [atI_set h]; show some _ = some _; rw [Int.toNat_natCast, List.set_set])).trans ?_
  refine (ct d0).trans ?_
  refine (ct (by rw [List.length_set]; exact d1)).trans ?_
  refine (bs (x := m.set j (y, y + 1, y + 2, s3, s4, s5, s6, s7, s8, s9, s10)) (by rw [atI_set h]; show some _ = some _; rw [Int.toNat_natCast, List.set_set])).trans ?_
  refine (ct d0).trans ?_
  refine (ct (by rw [List.length_set]; exact d1)).trans ?_
  refine (bs (x := m.set j (y, y + 1, y + 2, y + 3, s4, s5, s6, s7, s8, s9, s10)) (by rw [atI_set h]; show some _ = some _; rw [Int.toNat_natCast, List.set_set])).trans ?_
  refine (ct d0).trans ?_
  refine (ct (by rw [List.length_set]; exact d1)).trans ?_
  refine (bs (x := m.set j (y, y + 1, y + 2, y + 3, y + 4, s5, s6, s7, s8, s9, s10)) (by rw [atI_set h]; show some _ = some _; rw [Int.toNat_natCast, List.set_set])).trans ?_
  refine (ct d0).trans ?_
  refine (ct (by rw [List.length_set]; exact d1)).trans ?_
  refine (bs (x := m.set j (y, y + 1, y + 2, y + 3, y + 4, ((y + 5).tmod 3 == 0), s6, s7, s8, s9, s10)) (by rw [atI_set h]; show some _ = some _; rw [Int.toNat_natCast, List.set_set])).trans ?_
  refine (ct d0).trans ?_
  refine (ct (by rw [List.length_set]; exact d1)).trans ?_
  refine (bs (x := m.set j (y, y + 1, y + 2, y + 3, y + 4, ((y + 5).tmod 3 == 0), ((y + 6).tmod 3 == 0), s7, s8, s9, s10)) (by rw [atI_set h]; show some _ = some _; rw [Int.toNat_natCast, List.set_set])).trans ?_
  refine (ct d0).trans ?_
  refine (ct (by rw [List.length_set]; exact d1)).trans ?_
  refine (bs (x := m.set j (y, y + 1, y + 2, y + 3, y + 4, ((y + 5).tmod 3 == 0), ((y + 6).tmod 3 == 0), ((y + 7).tmod 3 == 0), s8, s9, s10)) (by rw [atI_set h]; show some _ = some _; rw [Int.toNat_natCast, List.set_set])).trans ?_
  refine (ct d0).trans ?_
  refine (ct (by rw [List.length_set]; exact d1)).trans ?_
  refine (bs (x := m.set j (y, y + 1, y + 2, y + 3, y + 4, ((y + 5).tmod 3 == 0), ((y + 6).tmod 3 == 0), ((y + 7).tmod 3 == 0), ((y + 8).tmod 3 == 0), s9, s10)) (by rw [atI_set h]; show some _ = some _; rw [Int.toNat_natCast, List.set_set])).trans ?_
  refine (ct d0).trans ?_
  refine (ct (by rw [List.length_set]; exact d1)).trans ?_
  refine (bs (by rw [atI_set h]; exact F69_eq k s9 (y + 9) (by omega) (by omega) (by omega))).trans ?_
  refine (ct d0).trans ?_
  refine (ct (by rw [List.length_set, List.length_set]; exact d1)).trans ?_
  have h8 : j < (m.set j (y, y + 1, y + 2, y + 3, y + 4, ((y + 5).tmod 3 == 0), ((y + 6).tmod 3 == 0), ((y + 7).tmod 3 == 0), ((y + 8).tmod 3 == 0), s9, s10)).length := by rw [List.length_set]; exact h
  refine (bs (by rw [Int.toNat_natCast, atI_set h8, atI_set h]; exact F32_eq k s10 (y + 9 + 2 * (s9.length : Int)) (by omega) (by omega) (by omega))).trans ?_
  rw [Int.toNat_natCast, atI_set h8, atI_set h, List.set_set, List.set_set]
  show F27_l0 k a0 a1 n _ _ _ = _
  unfold wS gS
  have e : y + (9 + 2 * (s9.length : Int) + (s10.length : Int)) = y + 9 + 2 * (s9.length : Int) + (s10.length : Int) := by omega
  simp only [e]
theorem F27_eq (k : Nat) (l : sgL) (x : Int) (N : Nat) (hl : l.length ≤ 4194304) (hk : l.length < k) (hs : ∀ s ∈ l, shortS N s) (hN : N < k) (h0 : 0 ≤ x) (hB : x + sumS wS l ≤ 1099511627776) :
    F27 k l x = some (x + sumS wS l, marks gS wS x l) := by
  simp only [F27, F27_T]
  have main : ∀ (n : Nat) (y : Int) (d r : sgL), d.length + r.length = l.length → r.length < n → (∀ s ∈ r, shortS N s) → 0 ≤ y → y + sumS wS r ≤ 1099511627776 →
      F27_l0 k l x n y (d.length : Nat) (d ++ r) = some (y + sumS wS r, d ++ marks gS wS y r) := by
    intro n
    induction n with
    | zero => intro y d r _ h; omega
    | succ n ih =>
      intro y d r hN2 hn hr h0 hB
      cases r with
      | nil => simp [F27_l0, F27_l0_T, sumS, marks]
      | cons a r =>
        simp only [sumS] at hB
        have ha := wS_pos a
        have hr2 := sumS_nonneg wS_pos r
        have hj : d.length < (d ++ a :: r).length := by simp
        have hget : (d ++ a :: r)[d.length] = a := by simp
        rw [markS_step k l x n y d.length (d ++ a :: r) N hj (by simp at hN2 ⊢; omega) h0 (by rw [hget]; omega) (by rw [hget]; exact hr a (by simp)) hN, hget]
        have := ih (y + wS a) (d ++ [gS y a]) r (by simp at hN2 ⊢; omega) (by simp at hn; omega) (fun s hs => hr s (by simp [hs])) (by omega) (by omega)
        simp only [List.length_append, List.length_singleton, List.append_assoc, List.singleton_append] at this
        rw [show (d ++ a :: r).set d.length (gS y a) = d ++ gS y a :: r by simp, this]
        simp [sumS, marks, Int.add_assoc]
  have := main k x [] l (by simp) hk hs h0 hB
  simpa using this
/-- a segment that bears marks -/
def bears (N : Nat) (y : Int) (s : den seg) : Prop := ∃ b : den seg, s = gS y b ∧ shortS N b
theorem heldS_step (k : Nat) (l : sgL) (x : Int) (n : Nat) (y : Int) (j : Nat) (N : Nat) (h : j < l.length) (hl : l.length ≤ 4194304) (ht : bears N y l[j]) (h0 : 0 ≤ y) (hB : y + wS l[j] ≤ 1099511627776) (hN : N < k) :
    F28_l0 k l x (n + 1) y (j : Int) = F28_l0 k l x n (y + wS l[j]) ((j + 1 : Nat) : Int) := by
  rw [F28_l0]
  unfold F28_l0_T
  rw [atI_get l j h, up1 j (by omega)]
  obtain ⟨b, hb, hs9, hs10⟩ := ht
  generalize l[j] = s at *
  subst hb
  obtain ⟨s0, s1, s2, s3, s4, s5, s6, s7, s8, s9, s10⟩ := b
  rw [wS_gS] at hB ⊢
  simp only [wS] at hB
  simp only at hs9 hs10
  have d1 : decide ((j : Int) < ((l.length : Nat) : Int)) = true := decide_eq_true (by omega)
  have d0 : decide ((0 : Int) ≤ ((j : Nat) : Int)) = true := decide_eq_true (by omega)
  have w0 : IntKind.i64.wrap (y + 1) = y + 1 := by rw [i64_in _ (by omega)]
  have w1 : IntKind.i64.wrap (y + 1 + 1) = y + 2 := by rw [i64_in _ (by omega)]; omega
  have w2 : IntKind.i64.wrap (y + 2 + 1) = y + 3 := by rw [i64_in _ (by omega)]; omega
  have w3 : IntKind.i64.wrap (y + 3 + 1) = y + 4 := by rw [i64_in _ (by omega)]; omega
  have w4 : IntKind.i64.wrap (y + 4 + 1) = y + 5 := by rw [i64_in _ (by omega)]; omega
  have w5 : IntKind.i64.wrap (y + 5 + 1) = y + 6 := by rw [i64_in _ (by omega)]; omega
  have w6 : IntKind.i64.wrap (y + 6 + 1) = y + 7 := by rw [i64_in _ (by omega)]; omega
  have w7 : IntKind.i64.wrap (y + 7 + 1) = y + 8 := by rw [i64_in _ (by omega)]; omega
  have w8 : IntKind.i64.wrap (y + 8 + 1) = y + 9 := by rw [i64_in _ (by omega)]; omega
  rw [w0, w1, w2, w3, w4, w5, w6, w7, w8]
  refine (ct d1).trans ?_
  refine (ct d0).trans ?_
  refine (ct d1).trans ?_
  refine (cf (by unfold gS; simp)).trans ?_
  refine (ct d0).trans ?_
  refine (ct d1).trans ?_
  refine (cf (by unfold gS; simp)).trans ?_
  refine (ct d0).trans ?_
  refine (ct d1).trans ?_
  refine (cf (by unfold gS; simp)).trans ?_
  refine (ct d0).trans ?_
  refine (ct d1).trans ?_
  refine (cf (by unfold gS; simp)).trans ?_
  refine (ct d0).trans ?_
  refine (ct d1).trans ?_
  refine (cf (by unfold gS; simp)).trans ?_
  refine (ct d0).trans ?_
  refine (ct d1).trans ?_
  refine (cf (by unfold gS; simp)).trans ?_
  refine (ct d0).trans ?_
  refine (ct d1).trans ?_
  refine (cf (by unfold gS; simp)).trans ?_
  refine (ct d0).trans ?_
  refine (ct d1).trans ?_
  refine (cf (by unfold gS; simp)).trans ?_
  refine (ct d0).trans ?_
  refine (ct d1).trans ?_
  refine (cf (by unfold gS; simp)).trans ?_
  refine (ct d0).trans ?_
  refine (ct d1).trans ?_
  refine (bs (F70_eq k s9 (y + 9) (by omega) (by omega) (by omega))).trans ?_
  refine (cf (decide_eq_false (by omega))).trans ?_
  refine (ct d0).trans ?_
  refine (ct d1).trans ?_
  refine (bs (F33_eq k s10 (y + 9 + 2 * (s9.length : Int)) (by omega) (by omega) (by omega))).trans ?_
  refine (cf (decide_eq_false (by omega))).trans ?_
  show F28_l0 k l x n _ _ = _
  unfold wS
  have e : y + (9 + 2 * (s9.length : Int) + (s10.length : Int)) = y + 9 + 2 * (s9.length : Int) + (s10.length : Int) := by omega
  simp only [e]
theorem F28_eq (k : Nat) (l : sgL) (x : Int) (N : Nat) (hl : l.length ≤ 4194304) (hk : l.length < k) (hs : ∀ s ∈ l, shortS N s) (hN : N < k) (h0 : 0 ≤ x) (hB : x + sumS wS l ≤ 1099511627776) :
    F28 k (marks gS wS x l) x = some (x + sumS wS l) := by
  have hlen := marks_len gS wS x l
  have hsum := sumS_marks (g := gS) (s := wS) wS_gS x l
  have hh := Helds_mem (t := bears N) (g := gS) (s := wS) wS_gS x l (fun y a ha => ⟨a, rfl, hs a ha⟩)
  generalize marks gS wS x l = m at hlen hsum hh
  have := heldLoop 1099511627776 m (fun n y j => F28_l0 k m x n y j) (bears N) wS (fun x => x) wS_pos
    (fun n y j h ht h0 hB => heldS_step k m x n y j N h (by omega) ht h0 hB hN)
    (fun n y => by simp [F28_l0, F28_l0_T]) k x 0 (Nat.zero_le _) (by omega) h0 (by rw [List.drop_zero, hsum]; exact hB) (by rw [List.drop_zero]; exact hh)
  rw [List.drop_zero, hsum] at this
  simp only [F28, F28_T]
  exact this
theorem F24_self (k : Nat) (l : sgL) (N : Nat) (hl : l.length ≤ 4194304) (hk : l.length < k) (hs : ∀ s ∈ l, shortS N s) (hN : N < k) (hN2 : N ≤ 4194304) : F24 k l l = some true := by
  have := foldLoop l (fun n (_ : Unit) j => F24_l0 k l l n j) (fun s _ => s) (fun _ => true)
    (fun n s j h => by
      obtain ⟨h9, h10⟩ := hs l[j] (List.getElem_mem h)
      simp only [F24_l0, F24_l0_T]
      rw [atI_get l j h, up1 j (by omega), F25_self k _ _ _ _ _ _ _ _ _ _ _ (by omega) (by omega) (by omega) (by omega)]
      simp [h])
    (fun n s => by simp [F24_l0, F24_l0_T]) k () 0 (Nat.zero_le _) (by omega)
  simp only [F24, F24_T, bne_self_eq_false, cond_false]
  exact this

/-! ### joined rows -/
abbrev T12 : Type := Int × Int × Int × Int × Int × Bool × Bool × Bool × Bool × List (den rng) × List (den (.int .u8)) × Bool
def joinV (a0 a1 a2 a3 a4 : Int) (a5 a6 a7 a8 : Bool) (a9 : List (den rng)) (a10 : List (den (.int .u8))) (b0 b1 b2 b3 b4 : Int) (b5 b6 b7 b8 : Bool) (b9 : List (den rng)) (b10 : List (den (.int .u8))) : Int × Int × Int × Int × Int × Bool × Bool × Bool × Bool × List (den rng) × List (den (.int .u8)) × Bool :=
  cond (!(okS a0 a1 a2 a3 a4 a5 a6 a7 a8 a9 a10)) (0, 0, 0, 0, 0, false, false, false, false, [], [], false) (cond (!(okS b0 b1 b2 b3 b4 b5 b6 b7 b8 b9 b10)) (0, 0, 0, 0, 0, false, false, false, false, [], [], false)
  (cond (a0 != b0) (0, 0, 0, 0, 0, false, false, false, false, [], [], false) (cond (a1 != b1) (0, 0, 0, 0, 0, false, false, false, false, [], [], false)
  (cond (!(a6 == b6)) (0, 0, 0, 0, 0, false, false, false, false, [], [], false) (cond (a3 != b3) (0, 0, 0, 0, 0, false, false, false, false, [], [], false)
  (cond (a4 != b4) (0, 0, 0, 0, 0, false, false, false, false, [], [], false) (cond (!(decide (a9 = b9))) (0, 0, 0, 0, 0, false, false, false, false, [], [], false)
  (cond a8 (0, 0, 0, 0, 0, false, false, false, false, [], [], false) (cond b8 (0, 0, 0, 0, 0, false, false, false, false, [], [], false)
  (cond (((a10.length : Nat) : Int) == 0) (0, 0, 0, 0, 0, false, false, false, false, [], [], false) (cond (((b10.length : Nat) : Int) == 0) (0, 0, 0, 0, 0, false, false, false, false, [], [], false)
  (cond a7 (0, 0, 0, 0, 0, false, false, false, false, [], [], false) (cond b5 (0, 0, 0, 0, 0, false, false, false, false, [], [], false)
  (cond (b2 != seqOf (IntKind.i64.wrap (a2 + longS a5 a7 a10))) (0, 0, 0, 0, 0, false, false, false, false, [], [], false)
  (cond (decide ((IntKind.i64.wrap (((a10.length : Nat) : Int) + ((b10.length : Nat) : Int))) > 12)) (0, 0, 0, 0, 0, false, false, false, false, [], [], false)
  (a0, a1, a2, a3, a4, a5, a6, b7, a8, a9, a10 ++ b10, true))))))))))))))))
def jn (a b : den seg) : Option (den seg) :=
  cond (joinV a.1 a.2.1 a.2.2.1 a.2.2.2.1 a.2.2.2.2.1 a.2.2.2.2.2.1 a.2.2.2.2.2.2.1 a.2.2.2.2.2.2.2.1 a.2.2.2.2.2.2.2.2.1 a.2.2.2.2.2.2.2.2.2.1 a.2.2.2.2.2.2.2.2.2.2 b.1 b.2.1 b.2.2.1 b.2.2.2.1 b.2.2.2.2.1 b.2.2.2.2.2.1 b.2.2.2.2.2.2.1 b.2.2.2.2.2.2.2.1 b.2.2.2.2.2.2.2.2.1 b.2.2.2.2.2.2.2.2.2.1 b.2.2.2.2.2.2.2.2.2.2).2.2.2.2.2.2.2.2.2.2.2
    (some (a.1, a.2.1, a.2.2.1, a.2.2.2.1, a.2.2.2.2.1, a.2.2.2.2.2.1, a.2.2.2.2.2.2.1, b.2.2.2.2.2.2.2.1, a.2.2.2.2.2.2.2.2.1, a.2.2.2.2.2.2.2.2.2.1, a.2.2.2.2.2.2.2.2.2.2 ++ b.2.2.2.2.2.2.2.2.2.2)) none
/-- is it a segment -/
def okD (s : den seg) : Bool := okS s.1 s.2.1 s.2.2.1 s.2.2.2.1 s.2.2.2.2.1 s.2.2.2.2.2.1 s.2.2.2.2.2.2.1 s.2.2.2.2.2.2.2.1 s.2.2.2.2.2.2.2.2.1 s.2.2.2.2.2.2.2.2.2.1 s.2.2.2.2.2.2.2.2.2.2
theorem cond_z {α : Type} {c : Bool} {z x : α} {f : α → Bool} (hz : f z = false) (h : f (cond c z x) = true) : c = false ∧ f x = true := by
  cases c with
  | true => rw [cond_true, hz] at h; cases h
  | false => exact ⟨rfl, h⟩
/-- what is known of two that are joined -/
theorem joinV_true {a0 a1 a2 a3 a4 : Int} {a5 a6 a7 a8 : Bool} {a9 : List (den rng)} {a10 : List (den (.int .u8))} {b0 b1 b2 b3 b4 : Int} {b5 b6 b7 b8 : Bool} {b9 : List (den rng)} {b10 : List (den (.int .u8))} (h : (joinV a0 a1 a2 a3 a4 a5 a6 a7 a8 a9 a10 b0 b1 b2 b3 b4 b5 b6 b7 b8 b9 b10).2.2.2.2.2.2.2.2.2.2.2 = true) :
    joinV a0 a1 a2 a3 a4 a5 a6 a7 a8 a9 a10 b0 b1 b2 b3 b4 b5 b6 b7 b8 b9 b10 = (a0, a1, a2, a3, a4, a5, a6, b7, a8, a9, a10 ++ b10, true) ∧ okS a0 a1 a2 a3 a4 a5 a6 a7 a8 a9 a10 = true ∧ okS b0 b1 b2 b3 b4 b5 b6 b7 b8 b9 b10 = true ∧ (a0 = b0 ∧ a1 = b1 ∧ a6 = b6 ∧ a3 = b3 ∧ a4 = b4 ∧ a9 = b9) ∧ (a8 = false ∧ b8 = false ∧ a7 = false ∧ b5 = false) ∧
      (a10.length ≠ 0 ∧ b10.length ≠ 0) ∧ b2 = seqOf (IntKind.i64.wrap (a2 + longS a5 a7 a10)) ∧ IntKind.i64.wrap (((a10.length : Nat) : Int) + ((b10.length : Nat) : Int)) ≤ 12 := by
  unfold joinV at h
  obtain ⟨c1, h⟩ := cond_z (f := fun r : T12 => r.2.2.2.2.2.2.2.2.2.2.2) rfl h
  obtain ⟨c2, h⟩ := cond_z (f := fun r : T12 => r.2.2.2.2.2.2.2.2.2.2.2) rfl h
  obtain ⟨c3, h⟩ := cond_z (f := fun r : T12 => r.2.2.2.2.2.2.2.2.2.2.2) rfl h
  obtain ⟨c4, h⟩ := cond_z (f := fun r : T12 => r.2.2.2.2.2.2.2.2.2.2.2) rfl h
  obtain ⟨c5, h⟩ := cond_z (f := fun r : T12 => r.2.2.2.2.2.2.2.2.2.2.2) rfl h
  obtain ⟨c6, h⟩ := cond_z (f := fun r : T12 => r.2.2.2.2.2.2.2.2.2.2.2) rfl h
  obtain ⟨c7, h⟩ := cond_z (f := fun r : T12 => r.2.2.2.2.2.2.2.2.2.2.2) rfl h
  obtain ⟨c8, h⟩ := cond_z (f := fun r : T12 => r.2.2.2.2.2.2.2.2.2.2.2) rfl h
  obtain ⟨c9, h⟩ := cond_z (f := fun r : T12 => r.2.2.2.2.2.2.2.2.2.2.2) rfl h
  obtain ⟨c10, h⟩ := cond_z (f := fun r : T12 => r.2.2.2.2.2.2.2.2.2.2.2) rfl h
  obtain ⟨c11, h⟩ := cond_z (f := fun r : T12 => r.2.2.2.2.2.2.2.2.2.2.2) rfl h
  obtain ⟨c12, h⟩ := cond_z (f := fun r : T12 => r.2.2.2.2.2.2.2.2.2.2.2) rfl h
  obtain ⟨c13, h⟩ := cond_z (f := fun r : T12 => r.2.2.2.2.2.2.2.2.2.2.2) rfl h
  obtain ⟨c14, h⟩ := cond_z (f := fun r : T12 => r.2.2.2.2.2.2.2.2.2.2.2) rfl h
  obtain ⟨c15, h⟩ := cond_z (f := fun r : T12 => r.2.2.2.2.2.2.2.2.2.2.2) rfl h
  obtain ⟨c16, h⟩ := cond_z (f := fun r : T12 => r.2.2.2.2.2.2.2.2.2.2.2) rfl h
  have e : joinV a0 a1 a2 a3 a4 a5 a6 a7 a8 a9 a10 b0 b1 b2 b3 b4 b5 b6 b7 b8 b9 b10 = (a0, a1, a2, a3, a4, a5, a6, b7, a8, a9, a10 ++ b10, true) := by
    unfold joinV
    exact ((cf c1).trans ((cf c2).trans ((cf c3).trans ((cf c4).trans ((cf c5).trans ((cf c6).trans ((cf c7).trans ((cf c8).trans ((cf c9).trans ((cf c10).trans ((cf c11).trans ((cf c12).trans ((cf c13).trans ((cf c14).trans ((cf c15).trans (cf c16))))))))))))))))
  refine ⟨e, by simpa using c1, by simpa using c2, ⟨by simpa using c3, by simpa using c4, by simpa using c5, by simpa using c6, by simpa using c7, by simpa using c8⟩, ⟨c9, c10, c13, c14⟩, ⟨fun e => ?_, fun e => ?_⟩, by simpa using c15, by simpa using c16⟩
  · rw [e] at c11; cases c11
  · rw [e] at c12; cases c12
/-- a row joined, one more segment -/
def stJ (out : sgL) (s : den seg) : sgL :=
  match out.getLast? with
  | some p => (match jn p s with | some x => out.dropLast ++ [x] | none => out ++ [s])
  | none => [s]
def joinAll (l : sgL) : sgL := cond (l.all okD) (l.foldl stJ []) []

theorem jn_short {n : Nat} {a b x : den seg} (hn : 12 ≤ n) (hN : n ≤ 1048576) (ha : shortS n a) (hb : shortS n b) (h : jn a b = some x) : shortS n x := by
  unfold jn at h
  cases hj : (joinV a.1 a.2.1 a.2.2.1 a.2.2.2.1 a.2.2.2.2.1 a.2.2.2.2.2.1 a.2.2.2.2.2.2.1 a.2.2.2.2.2.2.2.1 a.2.2.2.2.2.2.2.2.1 a.2.2.2.2.2.2.2.2.2.1 a.2.2.2.2.2.2.2.2.2.2 b.1 b.2.1 b.2.2.1 b.2.2.2.1 b.2.2.2.2.1 b.2.2.2.2.2.1 b.2.2.2.2.2.2.1 b.2.2.2.2.2.2.2.1 b.2.2.2.2.2.2.2.2.1 b.2.2.2.2.2.2.2.2.2.1 b.2.2.2.2.2.2.2.2.2.2).2.2.2.2.2.2.2.2.2.2.2 with
  | false => rw [hj] at h; cases h
  | true =>
    rw [hj] at h
    simp only [cond_true, Option.some.injEq] at h
    obtain ⟨_, _, _, _, _, _, _, h12⟩ := joinV_true hj
    obtain ⟨ha9, ha10⟩ := ha
    obtain ⟨hb9, hb10⟩ := hb
    rw [i64_in _ (by omega)] at h12
    subst h
    refine ⟨ha9, ?_⟩
    simp only [List.length_append]
    omega
theorem stJ_short {n : Nat} (hn : 12 ≤ n) (hN : n ≤ 1048576) {out : sgL} {s : den seg} (ho : ∀ x ∈ out, shortS n x) (hs : shortS n s) : (∀ x ∈ stJ out s, shortS n x) ∧ (stJ out s).length ≤ out.length + 1 := by
  unfold stJ
  cases hl : out.getLast? with
  | none =>
    refine ⟨fun x hx => ?_, by simp⟩
    obtain rfl := List.mem_singleton.1 hx
    exact hs
  | some p =>
    have hp : p ∈ out := List.mem_of_getLast? hl
    have hne : out ≠ [] := by intro e; subst e; simp at hl
    have hpos : 0 < out.length := List.length_pos_iff.2 hne
    simp only
    cases hj : jn p s with
    | none =>
      refine ⟨fun x hx => ?_, by simp⟩
      rcases List.mem_append.1 hx with hx | hx
      · exact ho x hx
      · obtain rfl := List.mem_singleton.1 hx
        exact hs
    | some y =>
      refine ⟨fun x hx => ?_, by simp <;> omega⟩
      rcases List.mem_append.1 hx with hx | hx
      · exact ho x (List.dropLast_subset _ hx)
      · obtain rfl := List.mem_singleton.1 hx
        exact jn_short hn hN (ho p hp) hs hj
theorem foldJ_short {n : Nat} (hn : 12 ≤ n) (hN : n ≤ 1048576) : ∀ (l out : sgL), (∀ x ∈ out, shortS n x) → (∀ x ∈ l, shortS n x) → (∀ x ∈ l.foldl stJ out, shortS n x) ∧ (l.foldl stJ out).length ≤ out.length + l.length
  | [], out, ho, _ => ⟨ho, by simp⟩
  | a :: l, out, ho, hl => by
    obtain ⟨h1, h2⟩ := stJ_short hn hN ho (hl a (by simp))
    obtain ⟨h3, h4⟩ := foldJ_short hn hN l (stJ out a) h1 (fun x hx => hl x (by simp [hx]))
    refine ⟨h3, ?_⟩
    simp only [List.foldl_cons, List.length_cons]
    omega
theorem joinAll_short {n : Nat} (hn : 12 ≤ n) (hN : n ≤ 1048576) (l : sgL) (hl : ∀ x ∈ l, shortS n x) : (∀ x ∈ joinAll l, shortS n x) ∧ (joinAll l).length ≤ l.length := by
  unfold joinAll
  cases l.all okD with
  | false => exact ⟨fun x hx => by simp at hx, by simp⟩
  | true =>
    have := foldJ_short hn hN l [] (by simp) hl
    simpa using this
/-- one more segment, as both programs do it -/
theorem last_at (out : sgL) (hne : out ≠ []) : ∃ p, out.getLast? = some p ∧ atI out ((out.length : Int) - 1) = p ∧ ∀ v : den seg, out.set ((out.length : Int) - 1).toNat v = out.dropLast ++ [v] := by
  obtain ⟨d, p, rfl⟩ := snoc_of hne
  refine ⟨p, by simp, ?_, fun v => ?_⟩
  · have : (((d ++ [p]).length : Int) - 1) = ((d.length : Nat) : Int) := by simp
    rw [this, atI_get (d ++ [p]) d.length (by simp)]
    simp
  · have : (((d ++ [p]).length : Int) - 1).toNat = d.length := by simp
    rw [this]
    simp
theorem F49_eq (k : Nat) (l : sgL) : F49 k l = some l := by
  simp only [F49, F49_T]
  rw [decide_eq_true (by omega : (0 : Int) ≤ ((l.length : Nat) : Int))]
  simp
/-! ### cut segments -/
def sqJ (a2 : Int) (a5 : Bool) (N j : Nat) : Int := if j = 0 then a2 else seqOf (a2 + ((j * N : Nat) : Int) + (if a5 then 1 else 0))
def pcJ (a0 a1 a2 a3 a4 : Int) (a5 a6 a7 a8 : Bool) (a9 : List (den rng)) (a10 : List (den (.int .u8))) (N j : Nat) : den seg := (a0, a1, sqJ a2 a5 N j, a3, a4, a5 && decide (j = 0), a6, a7 && decide (a10.length ≤ j * N + N), a8, a9, piece N a10 j)
def cnt (N len : Nat) : Nat := if len = 0 then 1 else (len + N - 1) / N
def cutV (a0 a1 a2 a3 a4 : Int) (a5 a6 a7 a8 : Bool) (a9 : List (den rng)) (a10 : List (den (.int .u8))) (N : Nat) : sgL := (List.range (cnt N a10.length)).map (pcJ a0 a1 a2 a3 a4 a5 a6 a7 a8 a9 a10 N)
theorem cnt_lt {N len j : Nat} (hN : 1 ≤ N) (h : j < cnt N len) : j = 0 ∨ j * N < len := by
  unfold cnt at h
  split at h
  · exact .inl (by omega)
  · right
    rw [Nat.lt_div_iff_mul_lt (by omega)] at h
    have : N * j = j * N := Nat.mul_comm _ _
    omega
theorem cnt_end {N len : Nat} (hN : 1 ≤ N) : 1 ≤ cnt N len ∧ len ≤ cnt N len * N := by
  unfold cnt
  split
  · exact ⟨Nat.le_refl _, by omega⟩
  · have h1 : 1 ≤ (len + N - 1) / N := by rw [Nat.le_div_iff_mul_le (by omega)]; omega
    refine ⟨h1, ?_⟩
    have h2 := Nat.div_add_mod (len + N - 1) N
    have h3 := Nat.mod_lt (len + N - 1) (show 0 < N by omega)
    rw [Nat.mul_comm] at h2
    omega
theorem cnt_bound {N len j : Nat} (hN : 1 ≤ N) (h : j ≤ cnt N len) : j * N ≤ len + N := by
  rcases Nat.eq_zero_or_pos j with rfl | hj
  · omega
  · obtain ⟨i, rfl⟩ : ∃ i, j = i + 1 := ⟨j - 1, by omega⟩
    rw [Nat.succ_mul]
    rcases cnt_lt hN (show i < cnt N len by omega) with rfl | h1
    · omega
    · omega
theorem cut_spec_l (k : Nat) (a0 a1 a2 a3 a4 : Int) (a5 a6 a7 a8 : Bool) (a9 : List (den rng)) (a10 : List (den (.int .u8))) (N : Nat) (h2 : 0 ≤ a2 ∧ a2 ≤ 65535) (h9 : a9.length ≤ 4194304) (h10 : a10.length ≤ 12) (hN1 : 1 ≤ N) (hN2 : N ≤ 12) : ∀ (n j : Nat), j ≤ cnt N a10.length → cnt N a10.length - j < n →
    F13_l0 k a0 a1 a2 a3 a4 a5 a6 a7 a8 a9 a10 (N : Int) n ((j * N : Nat) : Int) ((List.range j).map (pcJ a0 a1 a2 a3 a4 a5 a6 a7 a8 a9 a10 N)) = some (cutV a0 a1 a2 a3 a4 a5 a6 a7 a8 a9 a10 N)
  | 0, j, _, h => by omega
  | n + 1, j, hj, h => by
    have hb := cnt_bound hN1 hj
    have he := cnt_end (len := a10.length) hN1
    rw [F13_l0]
    unfold F13_l0_T
    have rec1 := cut_spec_l k a0 a1 a2 a3 a4 a5 a6 a7 a8 a9 a10 N h2 h9 h10 hN1 hN2 n (j + 1)
    rw [List.range_succ, List.map_append, List.map_singleton, Nat.succ_mul] at rec1
    have hlen : ((List.range j).map (pcJ a0 a1 a2 a3 a4 a5 a6 a7 a8 a9 a10 N)).length = j := by simp
    have hjN : j ≤ j * N := Nat.le_mul_of_pos_right j (by omega)
    have j1 : j < cnt N a10.length → (j = 0 ∨ j * N < a10.length) → F13_l0_j1 k a0 a1 a2 a3 a4 a5 a6 a7 a8 a9 a10 (N : Int) (fun x out => F13_l0 k a0 a1 a2 a3 a4 a5 a6 a7 a8 a9 a10 (N : Int) n x out) some ((j * N : Nat) : Int) ((List.range j).map (pcJ a0 a1 a2 a3 a4 a5 a6 a7 a8 a9 a10 N)) = some (cutV a0 a1 a2 a3 a4 a5 a6 a7 a8 a9 a10 N) := fun hlt hx => by
      have nx := rec1 (by omega) (by omega)
      have hx2 : j * N ≤ a10.length := by
        rcases hx with rfl | hx
        · omega
        · omega
      unfold F13_l0_j1 F13_l0_j2
      rw [F52_eq k a0 a1 a2 a3 a4 a5 a6 a7 a8 a9 a10 (by omega) (by omega), Option.bind_some, i64_in (((j * N : Nat) : Int) + (N : Int)) (by omega)]
      have hm : (if ((a10.length : Nat) : Int) < ((j * N : Nat) : Int) + (N : Int) then ((a10.length : Nat) : Int) else ((j * N : Nat) : Int) + (N : Int)) = ((j * N + min N (a10.length - j * N) : Nat) : Int) := by split <;> omega
      rw [hm, Int.toNat_natCast, Int.toNat_natCast, List.nil_append]
      have hw : (a10.take (j * N + min N (a10.length - j * N))).drop (j * N) = piece N a10 j := piece_win N a10 j
      have hpl := piece_len N a10 j
      rw [hw]
      have hL : (((j * N + min N (a10.length - j * N) : Nat) : Int) == ((a10.length : Nat) : Int)) = decide (a10.length ≤ j * N + N) := by
        by_cases c : a10.length ≤ j * N + N
        · rw [decide_eq_true c]; exact beq_iff_eq.2 (by omega)
        · rw [decide_eq_false c]; exact beq_eq_false_iff_ne.2 (by omega)
      rw [hL]
      rw [decide_eq_true (by omega : (0 : Int) ≤ ((j * N + min N (a10.length - j * N) : Nat) : Int)), decide_eq_true (by omega : ((j * N + min N (a10.length - j * N) : Nat) : Int) ≤ ((a10.length : Nat) : Int)), decide_eq_true (by omega : (0 : Int) ≤ ((j * N : Nat) : Int)), decide_eq_true (by omega : ((j * N : Nat) : Int) ≤ ((j * N + min N (a10.length - j * N) : Nat) : Int)),
        decide_eq_true (by simp only [List.length_nil]; omega : (([] : u8L).length + (piece N a10 j).length) * 1 ≤ 140737488355328)]
      simp only [Bool.and_self, cond_true, hlen, List.length_singleton]
      rw [decide_eq_true (by omega : (j + 1) * 96 ≤ 140737488355328)]
      simp only [cond_true]
      have hpc : ∀ (q : Int) (b : Bool), q = sqJ a2 a5 N j → b = (a5 && decide (j = 0)) → F13_l0 k a0 a1 a2 a3 a4 a5 a6 a7 a8 a9 a10 (N : Int) n (((j * N : Nat) : Int) + (N : Int)) ((List.range j).map (pcJ a0 a1 a2 a3 a4 a5 a6 a7 a8 a9 a10 N) ++ [(a0, a1, q, a3, a4, b, a6, a7 && decide (a10.length ≤ j * N + N), a8, a9, piece N a10 j)]) = some (cutV a0 a1 a2 a3 a4 a5 a6 a7 a8 a9 a10 N) := fun q b hq hb' => by
        subst hq hb'
        rw [← nx]
        congr 1
      rcases Nat.eq_zero_or_pos j with rfl | hj0
      · rw [decide_eq_false (by omega : ¬ (((0 * N : Nat) : Int) > 0))]
        simp only [cond_false]
        cases a7 with
        | true => exact hpc a2 a5 (by simp [sqJ]) (by simp)
        | false => exact hpc a2 a5 (by simp [sqJ]) (by simp)
      · have hpos : 0 < j * N := Nat.mul_pos hj0 (by omega)
        rw [decide_eq_true (by omega : (((j * N : Nat) : Int) > 0))]
        simp only [cond_true, F53_val, Option.bind_some]
        rw [i64_in (a2 + ((j * N : Nat) : Int)) (by omega), i64_in (a2 + ((j * N : Nat) : Int) + 1) (by omega)]
        have hj0' : ¬ j = 0 := by omega
        cases a5 with
        | true =>
          simp only [cond_true]
          cases a7 with
          | true => exact hpc _ false (by simp [sqJ, hj0']) (by simp [hj0'])
          | false => exact hpc _ false (by simp [sqJ, hj0']) (by simp [hj0'])
        | false =>
          simp only [cond_false]
          cases a7 with
          | true => exact hpc _ false (by simp [sqJ, hj0']) (by simp [hj0'])
          | false => exact hpc _ false (by simp [sqJ, hj0']) (by simp [hj0'])
    rcases Nat.lt_or_ge j (cnt N a10.length) with hlt | hge
    · rcases cnt_lt hN1 hlt with rfl | hx
      · refine (ct (by simp)).trans ?_
        exact j1 hlt (.inl rfl)
      · rcases Nat.eq_zero_or_pos j with h0 | hj0
        · subst h0
          refine (ct (by simp)).trans ?_
          exact j1 hlt (.inl rfl)
        · have hpos : 0 < j * N := Nat.mul_pos hj0 (by omega)
          refine (cf (beq_eq_false_iff_ne.2 (by omega))).trans ?_
          refine (ct (decide_eq_true (by omega))).trans ?_
          exact j1 hlt (.inr hx)
    · have hjc : j = cnt N a10.length := by omega
      have hpos : 0 < j * N := Nat.mul_pos (by omega) (by omega)
      refine (cf (beq_eq_false_iff_ne.2 (by omega))).trans ?_
      refine (cf (decide_eq_false (by rw [hjc]; omega))).trans ?_
      rw [hjc]
      rfl
/-- a piece without its last mark -/
def pcI (a0 a1 a2 a3 a4 : Int) (a5 a6 a7 a8 : Bool) (a9 : List (den rng)) (a10 : List (den (.int .u8))) (N j : Nat) : den seg := (a0, a1, sqJ a2 a5 N j, a3, a4, a5 && decide (j = 0), a6, false, a8, a9, piece N a10 j)
theorem seqOf_id {a : Int} (h : 0 ≤ a ∧ a ≤ 65535) : seqOf a = a := by
  unfold seqOf
  rw [Int.tmod_eq_of_lt h.1 (by omega), decide_eq_false (by omega), cond_false]
theorem cut_impl_l (k : Nat) (a0 a1 a2 a3 a4 : Int) (a5 a6 a7 a8 : Bool) (a9 : List (den rng)) (a10 : List (den (.int .u8))) (N : Nat) (h2 : 0 ≤ a2 ∧ a2 ≤ 65535) (h9 : a9.length ≤ 4194304) (h10 : a10.length ≤ 12) (hN1 : 1 ≤ N) (hN2 : N ≤ 12) (hgt : N < a10.length) : ∀ (d j : Nat) (p : Int), j + d = cnt N a10.length → (d ≠ 0 → p = a2 + ((j * N : Nat) : Int) + (if a5 = true ∧ j ≠ 0 then 1 else 0)) →
    F11_l0 k a0 a1 a2 a3 a4 a5 a6 a7 a8 a9 a10 (N : Int) ((pieces N a10).drop j) ((List.range j).map (pcI a0 a1 a2 a3 a4 a5 a6 a7 a8 a9 a10 N)) p = some (cutV a0 a1 a2 a3 a4 a5 a6 a7 a8 a9 a10 N)
  | 0, j, p, hj, _ => by
    have he := cnt_end (len := a10.length) hN1
    have hc : cnt N a10.length = (a10.length + N - 1) / N := by unfold cnt; rw [if_neg (by omega)]
    rw [Nat.add_zero] at hj
    have hb := cnt_bound hN1 (show j ≤ cnt N a10.length by omega)
    have hjN : j ≤ j * N := Nat.le_mul_of_pos_right j (by omega)
    rw [show (pieces N a10).drop j = [] by rw [hj, hc]; exact pieces_end N a10, F11_l0]
    have hlen : ((List.range j).map (pcI a0 a1 a2 a3 a4 a5 a6 a7 a8 a9 a10 N)).length = j := by simp
    obtain ⟨i, rfl⟩ : ∃ i, j = i + 1 := ⟨j - 1, by omega⟩
    rw [hlen, i64_in (((i + 1 : Nat) : Int) - 1) (by omega)]
    have e1 : ((i + 1 : Nat) : Int) - 1 = (i : Int) := by omega
    rw [e1, decide_eq_true (by omega : (0 : Int) ≤ (i : Int)), decide_eq_true (by omega : (i : Int) < ((i + 1 : Nat) : Int))]
    simp only [cond_true]
    have hat : atI ((List.range (i + 1)).map (pcI a0 a1 a2 a3 a4 a5 a6 a7 a8 a9 a10 N)) (i : Int) = pcI a0 a1 a2 a3 a4 a5 a6 a7 a8 a9 a10 N i := by
      rw [atI_get _ i (by simp)]
      simp
    rw [hat, Int.toNat_natCast]
    simp only [sto, Option.bind_some, F49_eq]
    congr 1
    unfold cutV
    rw [← hj]
    rw [List.range_succ, List.map_append, List.map_append, List.map_singleton, List.map_singleton]
    rw [List.set_append_right _ _ (by simp)]
    simp only [List.length_map, List.length_range, Nat.sub_self, List.set_cons_zero]
    congr 1
    · refine List.map_congr_left fun q hq => ?_
      have hq := List.mem_range.1 hq
      have h5 : (q + 1) * N < a10.length := by
        rcases cnt_lt hN1 (show q + 1 < cnt N a10.length by omega) with h6 | h6
        · omega
        · exact h6
      rw [Nat.succ_mul] at h5
      simp only [pcI, pcJ]
      rw [decide_eq_false (by omega : ¬ a10.length ≤ q * N + N), Bool.and_false]
    · have h5 : a10.length ≤ i * N + N := by
        have := he.2
        rw [← hj, Nat.succ_mul] at this
        exact this
      simp only [pcI, pcJ]
      rw [decide_eq_true h5, Bool.and_true]
  | d + 1, j, p, hj, hp => by
    have he := cnt_end (len := a10.length) hN1
    have hb := cnt_bound hN1 (show j ≤ cnt N a10.length by omega)
    have hjN : j ≤ j * N := Nat.le_mul_of_pos_right j (by omega)
    have hx : j * N < a10.length := by
      rcases cnt_lt hN1 (show j < cnt N a10.length by omega) with rfl | h6
      · omega
      · exact h6
    have hp := hp (by omega)
    have rec1 := cut_impl_l k a0 a1 a2 a3 a4 a5 a6 a7 a8 a9 a10 N h2 h9 h10 hN1 hN2 hgt d (j + 1)
    rw [List.range_succ, List.map_append, List.map_singleton, Nat.succ_mul] at rec1
    have hlen : ((List.range j).map (pcI a0 a1 a2 a3 a4 a5 a6 a7 a8 a9 a10 N)).length = j := by simp
    have hpl := piece_len N a10 j
    rw [pieces_drop hN1 a10 j hx, F11_l0]
    have hps : -9223372036854775808 ≤ p ∧ p ≤ 9223372036854775807 := by rw [hp]; split <;> omega
    have hsq : seqOf p = sqJ a2 a5 N j := by
      rw [hp]
      unfold sqJ
      rcases Nat.eq_zero_or_pos j with rfl | hj0
      · simp [seqOf_id h2]
      · have hj0' : ¬ j = 0 := by omega
        rw [if_neg hj0']
        cases a5 <;> simp [hj0']
    rw [F48_val k p hps, hsq]
    simp only [Option.bind_some, hlen]
    have h0 : (((j : Nat) : Int) == 0) = decide (j = 0) := by
      by_cases c : j = 0
      · subst c; rfl
      · rw [decide_eq_false c]; exact beq_eq_false_iff_ne.2 (by omega)
    rw [h0]
    have fin : ∀ (b : Bool) (q : Int), b = (a5 && decide (j = 0)) → q = p + longS b false (piece N a10 j) →
        F11_l0 k a0 a1 a2 a3 a4 a5 a6 a7 a8 a9 a10 (N : Int) ((pieces N a10).drop (j + 1)) ((List.range j).map (pcI a0 a1 a2 a3 a4 a5 a6 a7 a8 a9 a10 N) ++ [(a0, a1, sqJ a2 a5 N j, a3, a4, b, a6, false, a8, a9, piece N a10 j)]) q = some (cutV a0 a1 a2 a3 a4 a5 a6 a7 a8 a9 a10 N) := fun b q hb' hq => by
      subst hb'
      refine rec1 q (by omega) fun hd => ?_
      have hfull : (piece N a10 j).length = N := by
        have h5 : (j + 1) * N < a10.length := by
          rcases cnt_lt hN1 (show j + 1 < cnt N a10.length by omega) with h6 | h6
          · omega
          · exact h6
        rw [Nat.succ_mul] at h5
        omega
      rw [hq, hp]
      unfold longS
      rw [hfull]
      rcases Nat.eq_zero_or_pos j with rfl | hj0
      · cases a5 <;> simp <;> omega
      · have hj0' : ¬ j = 0 := by omega
        cases a5 <;> simp [hj0'] <;> omega
    have hpn : ∀ b, -9223372036854775808 ≤ p + longS b false (piece N a10 j) ∧ p + longS b false (piece N a10 j) ≤ 9223372036854775807 := fun b => by
      unfold longS
      rw [hp]
      split <;> split <;> simp <;> omega
    cases a5 with
    | true =>
      simp only [cond_true]
      rw [F16_eq k a0 a1 (sqJ a2 true N j) a3 a4 (decide (j = 0)) a6 false a8 a9 (piece N a10 j) (by omega), F46_eq k a0 a1 (sqJ a2 true N j) a3 a4 (decide (j = 0)) a6 false a8 a9 (piece N a10 j) (by omega) (by omega)]
      simp only [Option.bind_some, List.length_singleton]
      rw [decide_eq_true (by omega : (j + 1) * 96 ≤ 140737488355328), i64_in _ (hpn _)]
      exact fin _ _ (by simp) rfl
    | false =>
      simp only [cond_false]
      rw [F16_eq k a0 a1 (sqJ a2 false N j) a3 a4 false a6 false a8 a9 (piece N a10 j) (by omega), F46_eq k a0 a1 (sqJ a2 false N j) a3 a4 false a6 false a8 a9 (piece N a10 j) (by omega) (by omega)]
      simp only [Option.bind_some, List.length_singleton]
      rw [decide_eq_true (by omega : (j + 1) * 96 ≤ 140737488355328), i64_in _ (hpn _)]
      exact fin _ _ (by simp) rfl
/-- what both answer -/
def cutR (a0 a1 a2 a3 a4 : Int) (a5 a6 a7 a8 : Bool) (a9 : List (den rng)) (a10 : List (den (.int .u8))) (lim : Int) : sgL := cond (okS a0 a1 a2 a3 a4 a5 a6 a7 a8 a9 a10 && inB lim 1 12) (cutV a0 a1 a2 a3 a4 a5 a6 a7 a8 a9 a10 lim.toNat) []
theorem okS_in {a0 a1 a2 a3 a4 : Int} {a5 a6 a7 a8 : Bool} {a9 : List (den rng)} {a10 : List (den (.int .u8))} (h : okS a0 a1 a2 a3 a4 a5 a6 a7 a8 a9 a10 = true) : (0 ≤ a2 ∧ a2 ≤ 65535) ∧ a9.length ≤ 2 ∧ a10.length ≤ 12 := by
  unfold okS inB at h
  simp only [Bool.and_eq_true, Bool.not_eq_true', decide_eq_false_iff_not, decide_eq_true_eq] at h
  omega
theorem F13_eq (k : Nat) (a0 a1 a2 a3 a4 : Int) (a5 a6 a7 a8 : Bool) (a9 : List (den rng)) (a10 : List (den (.int .u8))) (lim : Int) (h9 : a9.length ≤ 1048576) (hk : 1048576 < k) : F13 k a0 a1 a2 a3 a4 a5 a6 a7 a8 a9 a10 lim = some (cutR a0 a1 a2 a3 a4 a5 a6 a7 a8 a9 a10 lim) := by
  unfold F13 F13_T cutR
  rw [F50_eq k a0 a1 a2 a3 a4 a5 a6 a7 a8 a9 a10 h9 (by omega), F51_eq]
  simp only [Option.bind_some]
  cases ho : okS a0 a1 a2 a3 a4 a5 a6 a7 a8 a9 a10 with
  | false => rfl
  | true =>
    cases hi : inB lim 1 12 with
    | false => rfl
    | true =>
      have hl : 1 ≤ lim ∧ lim ≤ 12 := by simpa [inB] using hi
      obtain ⟨q2, q9, q10⟩ := okS_in ho
      obtain ⟨N, rfl⟩ := Int.eq_ofNat_of_zero_le (show 0 ≤ lim by omega)
      have hcb := cnt_bound (N := N) (len := a10.length) (j := cnt N a10.length) (by omega) (Nat.le_refl _)
      have hcn : cnt N a10.length ≤ cnt N a10.length * N := Nat.le_mul_of_pos_right _ (by omega)
      have := cut_spec_l k a0 a1 a2 a3 a4 a5 a6 a7 a8 a9 a10 N q2 (by omega) q10 (by omega) (by omega) k 0 (Nat.zero_le _) (by omega)
      rw [Nat.zero_mul] at this
      exact this
theorem F11_eq (k : Nat) (a0 a1 a2 a3 a4 : Int) (a5 a6 a7 a8 : Bool) (a9 : List (den rng)) (a10 : List (den (.int .u8))) (lim : Int) (h9 : a9.length ≤ 1048576) (hk : 1048576 < k) : F11 k a0 a1 a2 a3 a4 a5 a6 a7 a8 a9 a10 lim = some (cutR a0 a1 a2 a3 a4 a5 a6 a7 a8 a9 a10 lim) := by
  unfold F11 cutR
  rw [F14_eq k a0 a1 a2 a3 a4 a5 a6 a7 a8 a9 a10 h9 (by omega), F45_eq]
  simp only [Option.bind_some]
  cases ho : okS a0 a1 a2 a3 a4 a5 a6 a7 a8 a9 a10 with
  | false => rfl
  | true =>
    cases hi : inB lim 1 12 with
    | false => rfl
    | true =>
      have hl : 1 ≤ lim ∧ lim ≤ 12 := by simpa [inB] using hi
      obtain ⟨q2, q9, q10⟩ := okS_in ho
      obtain ⟨N, rfl⟩ := Int.eq_ofNat_of_zero_le (show 0 ≤ lim by omega)
      simp only [Bool.not_true, cond_false, Bool.and_self, cond_true, Int.toNat_natCast]
      by_cases hle : a10.length ≤ N
      · rw [decide_eq_true (by omega : ((a10.length : Nat) : Int) ≤ (N : Int)), F46_eq k a0 a1 a2 a3 a4 a5 a6 a7 a8 a9 a10 (by omega) (by omega)]
        have hc1 : cnt N a10.length = 1 := by
          have hb := cnt_bound (N := N) (len := a10.length) (j := cnt N a10.length) (by omega) (Nat.le_refl _)
          have h1 := (cnt_end (N := N) (len := a10.length) (by omega)).1
          rcases Nat.lt_or_ge 1 (cnt N a10.length) with h2 | h2
          · rcases cnt_lt (show 1 ≤ N by omega) h2 with h3 | h3 <;> omega
          · omega
        simp only [cond_true, Option.bind_some, cutV, hc1]
        simp only [List.range_succ, List.range_zero, List.nil_append, List.map_singleton, pcJ, sqJ, piece]
        rw [decide_eq_true (by omega : a10.length ≤ 0 * N + N)]
        simp [List.take_of_length_le hle]
      · rw [decide_eq_false (by omega : ¬ ((a10.length : Nat) : Int) ≤ (N : Int)), decide_eq_true (by omega : 1 ≤ (N : Int)), decide_eq_true (by omega : (N : Int) ≤ 9223372036854775807), decide_eq_true (by omega : a10.length ≤ 140737488355328)]
        simp only [cond_false, Bool.and_self, cond_true]
        have := cut_impl_l k a0 a1 a2 a3 a4 a5 a6 a7 a8 a9 a10 N q2 (by omega) q10 (by omega) (by omega) (by omega) (cnt N a10.length) 0 a2 (by omega) (fun _ => by simp)
        simpa using this
theorem cutR_short (a0 a1 a2 a3 a4 : Int) (a5 a6 a7 a8 : Bool) (a9 : List (den rng)) (a10 : List (den (.int .u8))) (lim : Int) : (cutR a0 a1 a2 a3 a4 a5 a6 a7 a8 a9 a10 lim).length ≤ 24 ∧ ∀ s ∈ cutR a0 a1 a2 a3 a4 a5 a6 a7 a8 a9 a10 lim, shortS 12 s := by
  unfold cutR
  cases ho : okS a0 a1 a2 a3 a4 a5 a6 a7 a8 a9 a10 with
  | false => exact ⟨by simp, by simp⟩
  | true =>
    cases hi : inB lim 1 12 with
    | false => exact ⟨by simp, by simp⟩
    | true =>
      have hl : 1 ≤ lim ∧ lim ≤ 12 := by simpa [inB] using hi
      obtain ⟨q2, q9, q10⟩ := okS_in ho
      obtain ⟨N, rfl⟩ := Int.eq_ofNat_of_zero_le (show 0 ≤ lim by omega)
      simp only [Bool.and_self, cond_true, Int.toNat_natCast, cutV]
      have hcb := cnt_bound (N := N) (len := a10.length) (j := cnt N a10.length) (by omega) (Nat.le_refl _)
      have hcn : cnt N a10.length ≤ cnt N a10.length * N := Nat.le_mul_of_pos_right _ (by omega)
      refine ⟨by simp only [List.length_map, List.length_range]; omega, fun s hs => ?_⟩
      obtain ⟨j, hj, rfl⟩ := List.mem_map.1 hs
      have hpl := piece_len N a10 j
      exact ⟨by simp only [pcJ]; omega, by simp only [pcJ]; omega⟩

/-! ### the law -/
theorem sum_many {m : Nat} : ∀ (l : sgL), (∀ s ∈ l, shortS m s) → sumS wS l ≤ (9 + 3 * (m : Int)) * (l.length : Int)
  | [], _ => by simp [sumS]
  | s :: l, h => by
    obtain ⟨h9, h10⟩ := h s (by simp)
    have := sum_many l (fun x hx => h x (by simp [hx]))
    simp only [sumS, wS, List.length_cons]
    push_cast
    rw [Int.mul_add]
    omega
theorem XC_true (a0 a1 a2 a3 a4 : Int) (a5 a6 a7 a8 : Bool) (a9 : List (den rng)) (a10 : List (den (.int .u8))) (lim : Int) (h9 : a9.length ≤ maxLen) (h10 : a10.length ≤ maxLen) : F5 (4000000 + 4) a0 a1 a2 a3 a4 a5 a6 a7 a8 a9 a10 lim = some true := by
  generalize hn : 4000000 = n
  unfold F5 F5_T
  have sz := F22_eq (n + 4) a0 a1 a2 a3 a4 a5 a6 a7 a8 a9 a10 1048576 h9 h10 (by omega)
  refine (bs sz).trans ?_
  by_cases hc : ¬ (a9.length : Int) + (a10.length : Int) ≤ 1048576
  · rw [if_neg hc]
    exact (ct (by decide)).trans rfl
  replace hc := Decidable.not_not.1 hc
  rw [if_pos hc]
  refine (cf (decide_eq_false (by omega))).trans ?_
  have cp := F23_eq (n + 4) a0 a1 a2 a3 a4 a5 a6 a7 a8 a9 a10 (by omega) (by omega) (by omega) (by omega)
  have sj := F13_eq (n + 4) a0 a1 a2 a3 a4 a5 a6 a7 a8 a9 a10 lim (by omega) (by omega)
  have ij := F11_eq (n + 4) a0 a1 a2 a3 a4 a5 a6 a7 a8 a9 a10 lim (by omega) (by omega)
  obtain ⟨glen, gsh⟩ := cutR_short a0 a1 a2 a3 a4 a5 a6 a7 a8 a9 a10 lim
  generalize cutR a0 a1 a2 a3 a4 a5 a6 a7 a8 a9 a10 lim = g at *
  have sl := sum_many g gsh
  have slp := sumS_nonneg wS_pos g
  have eqg := F24_self (n + 4) g 12 (by omega) (by omega) gsh (by omega) (by omega)
  have eqa := F25_self (n + 4) a0 a1 a2 a3 a4 a5 a6 a7 a8 a9 a10 (by omega) (by omega) (by omega) (by omega)
  have ma := F26_eq (n + 4) a0 a1 a2 a3 a4 a5 a6 a7 a8 a9 a10 1 (by omega) (by omega) (by omega) (by omega)
  have mg := F27_eq (n + 4) g 1 12 (by omega) (by omega) gsh (by omega) (by omega) (by omega)
  have hg := F28_eq (n + 4) g 1 12 (by omega) (by omega) gsh (by omega) (by omega) (by omega)
  have p2 : decide (1 + sumS wS g < 0) = false := decide_eq_false (by omega)
  have p4 : (1 + sumS wS g != 1 + sumS wS g) = false := by simp
  refine (bs cp).trans ?_
  refine (bs sj).trans ?_
  refine (bs cp).trans ?_
  refine (bs ij).trans ?_
  refine (bs eqg).trans ?_
  refine (cf rfl).trans ?_
  refine (bs cp).trans ?_
  refine (bs eqa).trans ?_
  refine (cf rfl).trans ?_
  refine (bs ma).trans ?_
  refine (cf (decide_eq_false (by dsimp only; omega))).trans ?_
  refine (bs eqg).trans ?_
  refine (cf rfl).trans ?_
  refine (bs mg).trans ?_
  refine (bs hg).trans ?_
  refine (cf p2).trans ?_
  refine (cf p4).trans ?_
  refine (bs cp).trans ?_
  refine (bs ij).trans ?_
  refine (bs eqg).trans ?_
  refine (cf rfl).trans ?_
  refine (bs hg).trans ?_
  refine (cf p2).trans ?_
  exact (cf p4).trans rfl
theorem pureXC (x : den seg) (hx : Wf seg x) (lim : Int) (h3 : (Lit.int .i64 lim).wf = true) :
    ∃ k, (∀ (x : den seg) (lim : Int), Contract Try.prog 5 [.agg ((Rf.enc .ro seg x).map .l), .one (.l (.v (.int .i64 lim)))] ⟨F5 k x.1 x.2.1 x.2.2.1 x.2.2.2.1 x.2.2.2.2.1 x.2.2.2.2.2.1 x.2.2.2.2.2.2.1 x.2.2.2.2.2.2.2.1 x.2.2.2.2.2.2.2.2.1 x.2.2.2.2.2.2.2.2.2.1 x.2.2.2.2.2.2.2.2.2.2 lim, fun r => (.one (.v (.bool r)), [])⟩) ∧ F5 k x.1 x.2.1 x.2.2.1 x.2.2.2.1 x.2.2.2.2.1 x.2.2.2.2.2.1 x.2.2.2.2.2.2.1 x.2.2.2.2.2.2.2.1 x.2.2.2.2.2.2.2.2.1 x.2.2.2.2.2.2.2.2.2.1 x.2.2.2.2.2.2.2.2.2.2 lim = some true := by
  obtain ⟨x0, x1, x2, x3, x4, x5, x6, x7, x8, x9, x10⟩ := x
  obtain ⟨_, _, _, _, _, _, _, _, _, w9, w10⟩ := hx
  exact ⟨_, fun x lim => F5_con _ x.1 x.2.1 x.2.2.1 x.2.2.2.1 x.2.2.2.2.1 x.2.2.2.2.2.1 x.2.2.2.2.2.2.1 x.2.2.2.2.2.2.2.1 x.2.2.2.2.2.2.2.2.1 x.2.2.2.2.2.2.2.2.2.1 x.2.2.2.2.2.2.2.2.2.2 lim, XC_true x0 x1 x2 x3 x4 x5 x6 x7 x8 x9 x10 lim w9.1 w10.1⟩
end Go.Proofs.Ytnagpaikjikhaaa.Gn
end
