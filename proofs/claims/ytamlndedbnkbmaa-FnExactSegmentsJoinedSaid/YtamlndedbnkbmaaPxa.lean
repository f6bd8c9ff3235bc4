/-
  What the functions that the law reaches answer. (A part of the proofs of this seat.)
-/
import Derived.Test.YtamlndedbnkbmaaGxa
import Derived.Test.YtamlndedbnkbmaaRc

section
set_option linter.unusedVariables false
set_option linter.unusedSimpArgs false
/-
  What rows of ranges and bytes answer: the plain functions, in plain words.
-/
namespace Go.Proofs.Ytamlndedbnkbmaa.Gn
open Go.Rf Go.IntWalk

def inB (a b c : Int) : Bool := decide (b ≤ a) && decide (a ≤ c)
theorem F49_eq (k : Nat) (a b c : Int) : F49 k a b c = some (inB a b c) := by
  unfold F49 inB
  have : decide (a ≥ b) = decide (b ≤ a) := rfl
  rw [this]
  cases decide (b ≤ a) <;> rfl
theorem F33_eq (k : Nat) (a b c : Int) : F33 k a b c = some (inB a b c) := F49_eq k a b c
theorem F31_eq (k : Nat) (a : Int) : F31 k a = some (inB a 1 255) := by unfold F31; rw [F33_eq]; rfl
theorem F32_eq (k : Nat) (a : Int) : F32 k a = some (inB a 0 65535) := by unfold F32; rw [F33_eq]; rfl
abbrev u8L : Type := List (den (.int .u8))
abbrev rgL : Type := List (den rng)
theorem ml : maxLen = 9223372036854775807 := rfl
theorem F60_eq (k : Nat) (l : rgL) (x : Int) (hl : l.length ≤ maxLen) (hx : 0 ≤ x ∧ x ≤ 1048576) : F60 k l x = some (if (l.length : Int) ≤ x then x - (l.length : Int) else -1) := by
  simp only [F60, F60_T]
  rw [ml] at hl
  rw [i64_in _ (by omega)]
  by_cases h : (l.length : Int) ≤ x
  · rw [decide_eq_false (by omega), if_pos h]; rfl
  · rw [decide_eq_true (by omega), if_neg h]; rfl
theorem F61_eq (k : Nat) (l : u8L) (x : Int) (hl : l.length ≤ maxLen) (hx : 0 ≤ x ∧ x ≤ 1048576) : F61 k l x = some (if (l.length : Int) ≤ x then x - (l.length : Int) else -1) := by
  simp only [F61, F61_T]
  rw [ml] at hl
  rw [i64_in _ (by omega)]
  by_cases h : (l.length : Int) ≤ x
  · rw [decide_eq_false (by omega), if_pos h]; rfl
  · rw [decide_eq_true (by omega), if_neg h]; rfl
theorem F62_eq (k : Nat) (l : rgL) (hl : l.length ≤ 1048576) (hk : l.length < k) : F62 k l = some l := by
  have := copyLoop l id (fun n j m => F62_l0 k l n j m) id
    (fun n j m h hm => by
      simp only [F62_l0, F62_l0_T]
      rw [atI_get l j h, up1 j (by omega), F68]
      simp only [Option.bind_some]
      rw [decide_eq_true (by omega : ((j : Nat) : Int) < (l.length : Nat)), decide_eq_true (by omega : (0 : Int) ≤ (j : Nat)), decide_eq_true (by omega : ((j : Nat) : Int) < (m.length : Nat))]
      rfl)
    (fun n m hm => by simp [F62_l0, F62_l0_T]) k 0 (List.replicate l.length (dflt rng)) (Nat.zero_le _) (by omega) (by simp) (by simp)
  simp only [List.map_id] at this
  simp only [F62, F62_T]
  rw [decide_eq_true (by omega : (0 : Int) ≤ ((l.length : Nat) : Int)), decide_eq_true (by omega : ((l.length : Nat) : Int) * (16 : Nat) ≤ 140737488355328)]
  simp only [decide_true, Bool.and_self, cond_true]
  exact this
theorem F63_eq (k : Nat) (l : u8L) (hl : l.length ≤ 1048576) (hk : l.length < k) : F63 k l = some l := by
  have := copyLoop l id (fun n j m => F63_l0 k l n j m) id
    (fun n j m h hm => by
      simp only [F63_l0, F63_l0_T]
      rw [atI_get l j h, up1 j (by omega)]
      rw [decide_eq_true (by omega : ((j : Nat) : Int) < (l.length : Nat)), decide_eq_true (by omega : (0 : Int) ≤ (j : Nat)), decide_eq_true (by omega : ((j : Nat) : Int) < (m.length : Nat))]
      rfl)
    (fun n m hm => by simp [F63_l0, F63_l0_T]) k 0 (List.replicate l.length (dflt (.int .u8))) (Nat.zero_le _) (by omega) (by simp) (by simp)
  simp only [List.map_id] at this
  simp only [F63, F63_T]
  rw [decide_eq_true (by omega : (0 : Int) ≤ ((l.length : Nat) : Int)), decide_eq_true (by omega : ((l.length : Nat) : Int) * (1 : Nat) ≤ 140737488355328)]
  simp only [decide_true, Bool.and_self, cond_true]
  exact this
theorem some_cond {α : Type} (c : Bool) (a b : α) : cond c (some a) (some b) = some (cond c a b) := by cases c <;> rfl
theorem F37_eq (k : Nat) (a : Int) (h : -9223372036854775808 ≤ a ∧ a ≤ 9223372036854775807) : F37 k a = F50 k a := by
  unfold F37 F50
  have hm := Int.tmod_lt_of_pos a (show (0 : Int) < 65536 by omega)
  have hm2 : -65536 < a.tmod 65536 := by
    have := Int.tmod_lt_of_pos (-a) (show (0 : Int) < 65536 by omega)
    rw [Int.neg_tmod] at this
    omega
  rw [i64_in _ (by omega)]
  by_cases hn : a.tmod 65536 < 0
  · rw [decide_eq_true hn, cond_true]
    congr 1
    rw [Int.tmod_eq_of_lt (by omega) (by omega)]
  · rw [decide_eq_false hn, cond_false]
    congr 1
    have : (a.tmod 65536 + 65536).tmod 65536 = a.tmod 65536 := by
      rw [Int.tmod_eq_emod_of_nonneg (by omega), Int.add_emod_right, Int.emod_eq_of_lt (by omega) hm]
    exact this

def seqOf (a : Int) : Int := cond (decide (a.tmod 65536 < 0)) (IntKind.i64.wrap (a.tmod 65536 + 65536)) (a.tmod 65536)
theorem F50_val (k : Nat) (a : Int) : F50 k a = some (seqOf a) := by unfold F50 seqOf; rw [some_cond]
theorem F37_val (k : Nat) (a : Int) (h : -9223372036854775808 ≤ a ∧ a ≤ 9223372036854775807) : F37 k a = some (seqOf a) := by rw [F37_eq k a h, F50_val]
theorem F66_eq (k : Nat) (l : rgL) : F66 k l = some l := by
  simp only [F66, F66_T]
  rw [decide_eq_true (by omega : (0 : Int) ≤ ((l.length : Nat) : Int))]
  simp
theorem F67_eq (k : Nat) (l : u8L) : F67 k l = some l := by
  simp only [F67, F67_T]
  rw [decide_eq_true (by omega : (0 : Int) ≤ ((l.length : Nat) : Int))]
  simp
theorem F51_eq (k : Nat) (l : rgL) (h : l.length ≤ 4194304) : F51 k l = some l := by
  simp only [F51, F51_T, F66_eq, List.nil_append, List.length_nil, Nat.zero_add]
  rw [decide_eq_true (by omega : l.length * 16 ≤ 140737488355328)]
  cases l with
  | nil => rfl
  | cons a r => rw [show ((((a :: r).length : Nat) : Int) == 0) = false by rw [beq_eq_false_iff_ne]; simp only [List.length_cons]; omega]; rfl
theorem F52_eq (k : Nat) (l : u8L) (h : l.length ≤ 4194304) : F52 k l = some l := by
  simp only [F52, F52_T, F67_eq, List.nil_append, List.length_nil, Nat.zero_add]
  rw [decide_eq_true (by omega : l.length * 1 ≤ 140737488355328)]
  cases l with
  | nil => rfl
  | cons a r => rw [show ((((a :: r).length : Nat) : Int) == 0) = false by rw [beq_eq_false_iff_ne]; simp only [List.length_cons]; omega]; rfl
theorem eqD_rng (a b : den rng) : eqD rng a b = decide (a = b) := by
  obtain ⟨a1, a2⟩ := a
  obtain ⟨b1, b2⟩ := b
  simp only [eqD]
  have e : ((a1, a2) = (b1, b2)) ↔ (a1 = b1 ∧ a2 = b2) := Prod.mk.injEq .. ▸ Iff.rfl
  by_cases h1 : a1 = b1 <;> by_cases h2 : a2 = b2 <;> simp [h1, h2, e]
theorem F36_l (k : Nat) (a b : rgL) (hlen : a.length = b.length) (h9 : a.length ≤ 4194304) (k9 : a.length < k) : F36_l0 k a b k 0 = some (decide (a = b)) :=
  eqLoop a b (fun n j => F36_l0 k a b n j) hlen
    (fun n j h h' => by
      simp only [F36_l0, F36_l0_T]
      rw [atI_get a j h, atI_get b j h', eqD_rng, up1 j (by omega)]
      rw [decide_eq_true (by omega : ((j : Nat) : Int) < (a.length : Nat)), decide_eq_true (by omega : ((j : Nat) : Int) < (b.length : Nat)), decide_eq_true (by omega : (0 : Int) ≤ (j : Nat))]
      by_cases hc : a[j] = b[j]
      · rw [decide_eq_true hc, if_pos hc]; rfl
      · rw [decide_eq_false hc, if_neg hc]; rfl)
    (fun n => by
      simp only [F36_l0, F36_l0_T]
      rw [decide_eq_false (by omega : ¬ ((a.length : Nat) : Int) < (a.length : Nat))]; rfl) k 0 (Nat.zero_le _) (by omega)
theorem F36_eq (k : Nat) (a b : rgL) (h9 : a.length ≤ 4194304) (k9 : a.length < k) : F36 k a b = some (decide (a = b)) := by
  simp only [F36, F36_T]
  by_cases hlen : a.length = b.length
  · rw [F36_l k a b hlen h9 k9, hlen]; simp
  · rw [show (((a.length : Nat) : Int) != ((b.length : Nat) : Int)) = true by rw [bne_iff_ne]; omega, cond_true, decide_eq_false (fun h => hlen (by rw [h]))]
theorem F64_self (k : Nat) (a : rgL) (h9 : a.length ≤ 4194304) (k9 : a.length < k) : F64 k a a = some true := by
  have := foldLoop a (fun n (_ : Unit) j => F64_l0 k a a n j) (fun s _ => s) (fun _ => true)
    (fun n s j h => by
      simp only [F64_l0, F64_l0_T]
      rw [atI_get a j h, up1 j (by omega), F69]
      simp [h])
    (fun n s => by simp [F64_l0, F64_l0_T]) k () 0 (Nat.zero_le _) (by omega)
  simp only [F64, F64_T, bne_self_eq_false, cond_false]
  exact this
theorem F65_self (k : Nat) (a : u8L) (h9 : a.length ≤ 4194304) (k9 : a.length < k) : F65 k a a = some true := by
  have := foldLoop a (fun n (_ : Unit) j => F65_l0 k a a n j) (fun s _ => s) (fun _ => true)
    (fun n s j h => by
      simp only [F65_l0, F65_l0_T]
      rw [atI_get a j h, up1 j (by omega)]
      simp [h])
    (fun n s => by simp [F65_l0, F65_l0_T]) k () 0 (Nat.zero_le _) (by omega)
  simp only [F65, F65_T, bne_self_eq_false, cond_false]
  exact this
def gR (x : Int) (a : den rng) : den rng := (x, x + 1)
def gB (x : Int) (a : den (.int .u8)) : den (.int .u8) := IntKind.u8.wrap x
theorem F43_eq (k : Nat) (l : rgL) (x : Int) (hk : l.length < k) (h0 : 0 ≤ x) (hB : x + 2 * (l.length : Int) ≤ 1099511627776) :
    F43 k l x = some (x + 2 * (l.length : Int), marks gR (fun _ => 2) x l) := by
  have := markLoop 1099511627776 l.length (fun n y j m => F43_l0 k l x n y j m) gR (fun _ => 2) (fun x m => (x, m)) (fun _ => by decide)
    (fun n y j m h hN h0 hB => by
      simp only [F43_l0, F43_l0_T, List.length_set, Int.toNat_natCast]
      rw [up1 j (by omega), i64_in (y + 1) (by omega), i64_in (y + 1 + 1) (by omega), List.set_set]
      rw [decide_eq_true (by omega : ((j : Nat) : Int) < (m.length : Nat)), decide_eq_true (by omega : (0 : Int) ≤ (j : Nat))]
      rw [atI_get (m.set j (y, (atI m (j : Int)).2)) j (by simpa using h)]
      simp only [List.getElem_set_self, cond_true]
      rw [Int.add_assoc]; rfl)
    (fun n x m => by simp [F43_l0, F43_l0_T]) k x [] l (by simp) hk h0 (by rw [sumS_const]; exact hB)
  rw [sumS_const] at this
  simp only [F43, F43_T]
  exact this
theorem F44_eq (k : Nat) (l : u8L) (x : Int) (hk : l.length < k) (h0 : 0 ≤ x) (hB : x + (l.length : Int) ≤ 1099511627776) :
    F44 k l x = some (x + (l.length : Int), marks gB (fun _ => 1) x l) := by
  have := markLoop 1099511627776 l.length (fun n y j m => F44_l0 k l x n y j m) gB (fun _ => 1) (fun x m => (x, m)) (fun _ => by decide)
    (fun n y j m h hN h0 hB => by
      simp only [F44_l0, F44_l0_T, Int.toNat_natCast]
      rw [up1 j (by omega), i64_in (y + 1) (by omega)]
      rw [decide_eq_true (by omega : ((j : Nat) : Int) < (m.length : Nat)), decide_eq_true (by omega : (0 : Int) ≤ (j : Nat))]
      rfl)
    (fun n x m => by simp [F44_l0, F44_l0_T]) k x [] l (by simp) hk h0 (by rw [sumS_const]; omega)
  rw [sumS_const, Int.one_mul] at this
  simp only [F44, F44_T]
  exact this
theorem F45_eq (k : Nat) (l : rgL) (x : Int) (hk : l.length < k) (h0 : 0 ≤ x) (hB : x + 2 * (l.length : Int) ≤ 1099511627776) :
    F45 k (marks gR (fun _ => 2) x l) x = some (x + 2 * (l.length : Int)) := by
  have hlen := marks_len gR (fun _ => 2) x l
  have hsum := sumS_marks (g := gR) (s := fun _ => 2) (fun _ _ => rfl) x l
  rw [sumS_const 2 l] at hsum
  have hh := Helds_marks (t := fun x a => a = ((x, x + 1) : Int × Int)) (g := gR) (s := fun _ => 2) (fun _ _ => rfl) (fun _ _ => rfl) x l
  have h9 := sumS_const 2 (marks gR (fun _ => 2) x l)
  generalize marks gR (fun _ => 2) x l = m at hlen hsum hh h9
  have := heldLoop 1099511627776 m (fun n y j => F45_l0 k m x n y j) (fun x a => a = ((x, x + 1) : Int × Int)) (fun _ => 2) (fun x => x) (fun _ => by decide)
    (fun n y j h ht h0 hB => by
      simp only [F45_l0, F45_l0_T]
      rw [up1 j (by omega), i64_in (y + 1) (by omega), i64_in (y + 1 + 1) (by omega), atI_get m j h, ht]
      rw [decide_eq_true (by omega : ((j : Nat) : Int) < (m.length : Nat)), decide_eq_true (by omega : (0 : Int) ≤ (j : Nat))]
      simp only [bne_self_eq_false, cond_true, cond_false]
      rw [Int.add_assoc]; rfl)
    (fun n y => by simp [F45_l0, F45_l0_T]) k x 0 (Nat.zero_le _) (by omega) h0 (by rw [List.drop_zero, hsum]; exact hB) (by rw [List.drop_zero]; exact hh)
  rw [List.drop_zero, hsum] at this
  simp only [F45, F45_T]
  exact this
theorem F46_eq (k : Nat) (l : u8L) (x : Int) (hk : l.length < k) (h0 : 0 ≤ x) (hB : x + (l.length : Int) ≤ 1099511627776) :
    F46 k (marks gB (fun _ => 1) x l) x = some (x + (l.length : Int)) := by
  have hlen := marks_len gB (fun _ => 1) x l
  have hsum := sumS_marks (g := gB) (s := fun _ => 1) (fun _ _ => rfl) x l
  rw [sumS_const 1 l, Int.one_mul] at hsum
  have hh := Helds_marks (t := fun x a => a = IntKind.u8.wrap x) (g := gB) (s := fun _ => 1) (fun _ _ => rfl) (fun _ _ => rfl) x l
  have h9 := sumS_const 1 (marks gB (fun _ => 1) x l)
  generalize marks gB (fun _ => 1) x l = m at hlen hsum hh h9
  have := heldLoop 1099511627776 m (fun n y j => F46_l0 k m x n y j) (fun x a => a = IntKind.u8.wrap x) (fun _ => 1) (fun x => x) (fun _ => by decide)
    (fun n y j h ht h0 hB => by
      simp only [F46_l0, F46_l0_T]
      rw [up1 j (by omega), i64_in (y + 1) (by omega), atI_get m j h, ht]
      rw [decide_eq_true (by omega : ((j : Nat) : Int) < (m.length : Nat)), decide_eq_true (by omega : (0 : Int) ≤ (j : Nat))]
      simp only [bne_self_eq_false, cond_true, cond_false])
    (fun n y => by simp [F46_l0, F46_l0_T]) k x 0 (Nat.zero_le _) (by omega) h0 (by rw [List.drop_zero, hsum]; exact hB) (by rw [List.drop_zero]; exact hh)
  rw [List.drop_zero, hsum] at this
  simp only [F46, F46_T]
  exact this
theorem bs {α β : Type} {o : Option α} {f : α → Option β} {x : α} (h : o = some x) : o.bind f = f x := by rw [h]; rfl
theorem cf {α : Type} {c : Bool} {a b : α} (h : c = false) : cond c a b = b := by rw [h]; rfl
theorem ct {α : Type} {c : Bool} {a b : α} (h : c = true) : cond c a b = a := by rw [h]; rfl
abbrev Seg : Type := (Int × Int × Int × Int × Int × Bool × Bool × Bool × Bool × List (den rng) × List (den (.int .u8)))

theorem F40_eq (k : Nat) (a0 a1 a2 a3 a4 : Int) (a5 a6 a7 a8 : Bool) (a9 : List (den rng)) (a10 : List (den (.int .u8))) (x : Int) (h9 : a9.length ≤ maxLen) (h10 : a10.length ≤ maxLen) (hx : 0 ≤ x ∧ x ≤ 1048576) :
    F40 k a0 a1 a2 a3 a4 a5 a6 a7 a8 a9 a10 x = some (if (a9.length : Int) + (a10.length : Int) ≤ x then x - (a9.length : Int) - (a10.length : Int) else -1) := by
  simp only [F40, F40_T]
  rw [F60_eq k a9 x h9 hx, Option.bind_some]
  by_cases h : (a9.length : Int) ≤ x
  · rw [if_pos h, decide_eq_false (by omega), cond_false, F61_eq k a10 _ h10 (by omega), Option.bind_some]
    by_cases h2 : (a10.length : Int) ≤ x - (a9.length : Int)
    · rw [if_pos h2, decide_eq_false (by omega), if_pos (by omega)]; rfl
    · rw [if_neg h2, if_neg (by omega)]; rfl
  · rw [if_neg h, if_neg (by omega)]; rfl
theorem F41_eq (k : Nat) (a0 a1 a2 a3 a4 : Int) (a5 a6 a7 a8 : Bool) (a9 : List (den rng)) (a10 : List (den (.int .u8))) (h9 : a9.length ≤ 1048576) (h10 : a10.length ≤ 1048576) (k9 : a9.length < k) (k10 : a10.length < k) : F41 k a0 a1 a2 a3 a4 a5 a6 a7 a8 a9 a10 = some (a0, a1, a2, a3, a4, a5, a6, a7, a8, a9, a10) := by
  simp only [F41, F41_T]
  rw [F62_eq k a9 h9 k9, F63_eq k a10 h10 k10]; rfl

def rgB (a : den rng) : Bool := inB a.1 0 65535 && inB a.2 0 65535
def okT (a3 a4 : Int) (a5 a6 a7 a8 : Bool) (a9 : rgL) (a10 : u8L) : Bool :=
  cond (!a6) (cond (a3 != 0) false (cond (a4 != 0) false (cond (decide (((a9.length : Nat) : Int) > 0)) false (cond (!a8) true (cond (!a5) (cond (!a7) (((a10.length : Nat) : Int) == 0) false) false)))))
    (cond (!a8) true (cond (!a5) (cond (!a7) (((a10.length : Nat) : Int) == 0) false) false))
def okS (a0 a1 a2 a3 a4 : Int) (a5 a6 a7 a8 : Bool) (a9 : List (den rng)) (a10 : List (den (.int .u8))) : Bool :=
  inB a0 1 255 && inB a1 1 255 && inB a2 0 65535 && inB a3 0 65535 && inB a4 0 255 && !(decide (((a9.length : Nat) : Int) > 2)) && !(decide (((a10.length : Nat) : Int) > 12)) && (a9.all rgB && okT a3 a4 a5 a6 a7 a8 a9 a10)
theorem F27_l (k : Nat) (a0 a1 a2 a3 a4 : Int) (a5 a6 a7 a8 : Bool) (a9 : List (den rng)) (a10 : List (den (.int .u8))) (h9 : a9.length ≤ 1048576) (k9 : a9.length < k) : F27_l0 k a0 a1 a2 a3 a4 a5 a6 a7 a8 a9 a10 k 0 = some (a9.all rgB && okT a3 a4 a5 a6 a7 a8 a9 a10) := by
  have := scanLoop a9 (fun n (_ : Unit) j => F27_l0 k a0 a1 a2 a3 a4 a5 a6 a7 a8 a9 a10 n j) (fun _ _ a => cond (rgB a) (.inl ()) (.inr false)) (fun _ => okT a3 a4 a5 a6 a7 a8 a9 a10)
    (fun n s j h => by
      simp only [F27_l0, F27_l0_T]
      rw [atI_get a9 j h, F49_eq, F49_eq, up1 j (by omega)]
      simp only [Option.bind_some]
      rw [decide_eq_true (by omega : ((j : Nat) : Int) < (a9.length : Nat)), decide_eq_true (by omega : (0 : Int) ≤ (j : Nat))]
      unfold rgB
      cases inB a9[j].1 0 65535 <;> cases inB a9[j].2 0 65535 <;> rfl)
    (fun n s => by
      simp only [F27_l0, F27_l0_T]
      rw [decide_eq_false (by omega : ¬ ((a9.length : Nat) : Int) < (a9.length : Nat))]
      simp only [cond_false, some_cond, okT]) k () 0 (Nat.zero_le _) (by omega)
  rw [scan_all, List.drop_zero] at this
  exact this
theorem F27_eq (k : Nat) (a0 a1 a2 a3 a4 : Int) (a5 a6 a7 a8 : Bool) (a9 : List (den rng)) (a10 : List (den (.int .u8))) (h9 : a9.length ≤ 1048576) (k9 : a9.length < k) : F27 k a0 a1 a2 a3 a4 a5 a6 a7 a8 a9 a10 = some (okS a0 a1 a2 a3 a4 a5 a6 a7 a8 a9 a10) := by
  simp only [F27, F27_T]
  rw [F27_l k a0 a1 a2 a3 a4 a5 a6 a7 a8 a9 a10 h9 k9]
  simp only [F49_eq, Option.bind_some, okS]
  cases inB a0 1 255 <;> try rfl
  cases inB a1 1 255 <;> try rfl
  cases inB a2 0 65535 <;> try rfl
  cases inB a3 0 65535 <;> try rfl
  cases inB a4 0 255 <;> try rfl
  cases decide (((a9.length : Nat) : Int) > 2) <;> try rfl
  cases decide (((a10.length : Nat) : Int) > 12) <;> rfl
theorem F35_eq (k : Nat) (a b : Int) : F35 k a b = some (!(rgB (a, b))) := by
  unfold F35 rgB
  rw [F32_eq, F32_eq]
  simp only [Option.bind_some]
  cases inB a 0 65535 <;> cases inB b 0 65535 <;> rfl
theorem F34_eq (k : Nat) (l : rgL) (h9 : l.length ≤ 1048576) (k9 : l.length < k) : F34 k l = some (!(l.all rgB)) := by
  have := scanLoop l (fun n (_ : Unit) j => F57_l0 k l n j) (fun _ j a => cond (rgB a) (.inl ()) (.inr (j : Int))) (fun _ => -1)
    (fun n s j h => by
      simp only [F57_l0, F57_l0_T]
      rw [atI_get l j h, F35_eq, up1 j (by omega)]
      simp only [Option.bind_some]
      rw [decide_eq_true (by omega : ((j : Nat) : Int) < (l.length : Nat)), decide_eq_true (by omega : (0 : Int) ≤ (j : Nat))]
      show cond true (cond true (cond true (cond (!rgB l[j]) _ _) _) _) _ = _
      cases rgB l[j] <;> rfl)
    (fun n s => by
      simp only [F57_l0, F57_l0_T]
      rw [decide_eq_false (by omega : ¬ ((l.length : Nat) : Int) < (l.length : Nat))]; rfl) k () 0 (Nat.zero_le _) (by omega)
  rw [List.drop_zero] at this
  have hs : ∀ (r : rgL) (j : Nat), (decide (scan (fun (_ : Unit) j a => cond (rgB a) (.inl ()) (.inr (j : Int))) (fun _ => (-1 : Int)) () j r ≥ 0)) = !(r.all rgB) := by
    intro r
    induction r with
    | nil => intro j; rfl
    | cons a r ih =>
      intro j
      rw [scan, List.all_cons]
      cases rgB a with
      | true => simpa using ih (j + 1)
      | false => simp
  simp only [F34, F57, F57_T]
  have this2 : F57_l0 k l k 0 = _ := this
  rw [this2, Option.bind_some, hs l 0]
theorem F10_eq (k : Nat) (a0 a1 a2 a3 a4 : Int) (a5 a6 a7 a8 : Bool) (a9 : List (den rng)) (a10 : List (den (.int .u8))) (h9 : a9.length ≤ 1048576) (k9 : a9.length < k) : F10 k a0 a1 a2 a3 a4 a5 a6 a7 a8 a9 a10 = some (okS a0 a1 a2 a3 a4 a5 a6 a7 a8 a9 a10) := by
  simp only [F10, F10_T]
  rw [F34_eq k a9 h9 k9]
  simp only [F31_eq, F32_eq, F33_eq, Option.bind_some, some_cond, okS]
  cases inB a0 1 255 <;> try rfl
  cases inB a1 1 255 <;> try rfl
  cases inB a2 0 65535 <;> try rfl
  cases inB a3 0 65535 <;> try rfl
  cases inB a4 0 255 <;> try rfl
  cases decide (((a9.length : Nat) : Int) > 2) <;> try rfl
  cases decide (((a10.length : Nat) : Int) > 12) <;> try rfl
  cases a9.all rgB <;> rfl

def longS (a5 a7 : Bool) (a10 : u8L) : Int := (a10.length : Int) + (if a5 then 1 else 0) + (if a7 then 1 else 0)
theorem F56_eq (k : Nat) (a0 a1 a2 a3 a4 : Int) (a5 a6 a7 a8 : Bool) (a9 : List (den rng)) (a10 : List (den (.int .u8))) (h : a10.length ≤ 1048576) : F56 k a0 a1 a2 a3 a4 a5 a6 a7 a8 a9 a10 = some (longS a5 a7 a10) := by
  simp only [F56, F56_T, longS]
  rw [i64_in ((a10.length : Nat) + 1 : Int) (by omega), i64_in _ (by omega)]
  cases a5 <;> cases a7 <;> simp
theorem F9_eq (k : Nat) (a0 a1 a2 a3 a4 : Int) (a5 a6 a7 a8 : Bool) (a9 : List (den rng)) (a10 : List (den (.int .u8))) (h : a10.length ≤ 1048576) : F9 k a0 a1 a2 a3 a4 a5 a6 a7 a8 a9 a10 = some (longS a5 a7 a10) := by
  simp only [F9, F9_T, longS, F30, some_cond, Option.bind_some]
  have e : ∀ c : Int, 0 ≤ c → c ≤ 10 → IntKind.i64.wrap ((a10.length : Int) + c) = (a10.length : Int) + c := fun c h1 h2 => i64_in _ (by omega)
  have e2 : ∀ c d : Int, 0 ≤ c → c ≤ 10 → 0 ≤ d → d ≤ 10 → IntKind.i64.wrap ((a10.length : Int) + c + d) = (a10.length : Int) + c + d := fun c d h1 h2 h3 h4 => i64_in _ (by omega)
  cases a5 <;> cases a7 <;> simp only [cond_true, cond_false, e 0 (by omega) (by omega), e 1 (by omega) (by omega), e2 0 0 (by omega) (by omega) (by omega) (by omega), e2 0 1 (by omega) (by omega) (by omega) (by omega), e2 1 0 (by omega) (by omega) (by omega) (by omega), e2 1 1 (by omega) (by omega) (by omega) (by omega)] <;> rfl
theorem F24_eq (k : Nat) (a0 a1 a2 a3 a4 : Int) (a5 a6 a7 a8 : Bool) (a9 : List (den rng)) (a10 : List (den (.int .u8))) (h9 : a9.length ≤ 4194304) (h10 : a10.length ≤ 4194304) : F24 k a0 a1 a2 a3 a4 a5 a6 a7 a8 a9 a10 = some (a0, a1, a2, a3, a4, a5, a6, a7, a8, a9, a10) := by
  simp only [F24, F24_T]
  rw [F51_eq k a9 h9, F52_eq k a10 h10]; rfl
theorem F29_eq (k : Nat) (a0 a1 a2 a3 a4 : Int) (a5 a6 a7 a8 : Bool) (a9 : List (den rng)) (a10 : List (den (.int .u8))) (h9 : a9.length ≤ 4194304) (h10 : a10.length ≤ 4194304) : F29 k a0 a1 a2 a3 a4 a5 a6 a7 a8 a9 a10 = some (a0, a1, a2, a3, a4, a5, a6, a7, a8, a9, a10) := by
  simp only [F29, F29_T, List.nil_append, List.length_nil, Nat.zero_add]
  rw [decide_eq_true (by omega : a9.length * 16 ≤ 140737488355328), decide_eq_true (by omega : a10.length * 1 ≤ 140737488355328)]; rfl
theorem F58_eq (k : Nat) (a : Int) (h : 0 ≤ a ∧ a ≤ 16777216) : F58 k a = some [] := by
  simp only [F58, F58_T]
  rw [decide_eq_false (by omega : ¬ a < 0), i64_in _ (by omega)]
  by_cases h0 : a = 0
  · subst h0; rfl
  · rw [decide_eq_true (by omega : a - 0 > 0), decide_eq_true (by omega : (a - 0) * (1 : Nat) ≤ 140737488355328)]
    rw [decide_eq_true (by omega : (0 : Int) ≤ (((List.replicate ((a - 0).toNat) (dflt (.int .u8))).length : Nat) : Int))]
    rfl
theorem F38_eq (n : Nat) (x y : u8L) (hx : x.length ≤ 1048576) (hy : y.length ≤ 1048576) : F38 (n + 4) [x, y] = some (x ++ y) := by
  have hl2 : F38_l2 (n + 4) [x, y] (n + 4) 0 [] = some (x ++ y) := by
    have e0 : atI (t := .sl (.int .u8)) [x, y] 0 = x := rfl
    have e1 : atI (t := .sl (.int .u8)) [x, y] 1 = y := rfl
    have w1 : IntKind.i64.wrap (0 + 1) = 1 := rfl
    have w2 : IntKind.i64.wrap (1 + 1) = 2 := rfl
    simp only [F38_l2, F38_l2_T, w1, w2, e0, e1, List.nil_append, List.length_nil, Nat.zero_add]
    rw [decide_eq_true (by omega : x.length * 1 ≤ 140737488355328), decide_eq_true (by omega : (x.length + y.length) * 1 ≤ 140737488355328)]
    rfl
  have hl0 : F38_l0 (n + 4) [x, y] (n + 4) 0 0 = some (x ++ y) := by
    have e0 : atI (t := .sl (.int .u8)) [x, y] 0 = x := rfl
    have e1 : atI (t := .sl (.int .u8)) [x, y] 1 = y := rfl
    have w1 : IntKind.i64.wrap (0 + 1) = 1 := rfl
    have w2 : IntKind.i64.wrap (1 + 1) = 2 := rfl
    have w3 : IntKind.i64.wrap (0 + (x.length : Int)) = (x.length : Int) := by rw [i64_in _ (by omega)]; omega
    have w4 : IntKind.i64.wrap ((x.length : Int) + (y.length : Int)) = (x.length : Int) + (y.length : Int) := i64_in _ (by omega)
    simp only [F38_l0, F38_l0_T, w1, w2, e0, e1, w3, w4]
    rw [decide_eq_false (by omega : ¬ ((x.length : Nat) : Int) < 0), decide_eq_false (by omega : ¬ ((x.length : Nat) : Int) + ((y.length : Nat) : Int) < 0),
      F58_eq (n + 4) ((x.length : Int) + (y.length : Int)) (by omega), Option.bind_some, hl2]
    rfl
  simp only [F38, F38_T]
  exact hl0

theorem F55_l (k : Nat) (a0 a1 a2 a3 a4 : Int) (a5 a6 a7 a8 : Bool) (a9 : List (den rng)) (a10 : List (den (.int .u8))) (b0 b1 b2 b3 b4 : Int) (b5 b6 b7 b8 : Bool) (b9 : List (den rng)) (b10 : List (den (.int .u8))) (hlen : a9.length = b9.length) (h9 : a9.length ≤ 4194304) (k9 : a9.length < k) : F55_l0 k a0 a1 a2 a3 a4 a5 a6 a7 a8 a9 a10 b0 b1 b2 b3 b4 b5 b6 b7 b8 b9 b10 k 0 = some (decide (a9 = b9)) :=
  eqLoop a9 b9 (fun n j => F55_l0 k a0 a1 a2 a3 a4 a5 a6 a7 a8 a9 a10 b0 b1 b2 b3 b4 b5 b6 b7 b8 b9 b10 n j) hlen
    (fun n j h h' => by
      simp only [F55_l0, F55_l0_T]
      rw [atI_get a9 j h, atI_get b9 j h', eqD_rng, up1 j (by omega)]
      rw [decide_eq_true (by omega : ((j : Nat) : Int) < (a9.length : Nat)), decide_eq_true (by omega : ((j : Nat) : Int) < (b9.length : Nat)), decide_eq_true (by omega : (0 : Int) ≤ (j : Nat))]
      by_cases hc : a9[j] = b9[j]
      · rw [decide_eq_true hc, if_pos hc]; rfl
      · rw [decide_eq_false hc, if_neg hc]; rfl)
    (fun n => by
      simp only [F55_l0, F55_l0_T]
      rw [decide_eq_false (by omega : ¬ ((a9.length : Nat) : Int) < (a9.length : Nat))]; rfl) k 0 (Nat.zero_le _) (by omega)
theorem F55_eq (k : Nat) (a0 a1 a2 a3 a4 : Int) (a5 a6 a7 a8 : Bool) (a9 : List (den rng)) (a10 : List (den (.int .u8))) (b0 b1 b2 b3 b4 : Int) (b5 b6 b7 b8 : Bool) (b9 : List (den rng)) (b10 : List (den (.int .u8))) (h9 : a9.length ≤ 4194304) (k9 : a9.length < k) : F55 k a0 a1 a2 a3 a4 a5 a6 a7 a8 a9 a10 b0 b1 b2 b3 b4 b5 b6 b7 b8 b9 b10 =
    cond (a0 != b0) (some false) (cond (a1 != b1) (some false) (cond (!(a6 == b6)) (some false) (cond (a3 != b3) (some false) (cond (a4 != b4) (some false) (some (decide (a9 = b9))))))) := by
  simp only [F55, F55_T]
  by_cases hlen : a9.length = b9.length
  · rw [F55_l k a0 a1 a2 a3 a4 a5 a6 a7 a8 a9 a10 b0 b1 b2 b3 b4 b5 b6 b7 b8 b9 b10 hlen h9 k9, hlen]; simp
  · rw [show (((a9.length : Nat) : Int) != ((b9.length : Nat) : Int)) = true by rw [bne_iff_ne]; omega, cond_true, decide_eq_false (fun h => hlen (by rw [h]))]
theorem F42_self (k : Nat) (a0 a1 a2 a3 a4 : Int) (a5 a6 a7 a8 : Bool) (a9 : List (den rng)) (a10 : List (den (.int .u8))) (h9 : a9.length ≤ 4194304) (h10 : a10.length ≤ 4194304) (k9 : a9.length < k) (k10 : a10.length < k) : F42 k a0 a1 a2 a3 a4 a5 a6 a7 a8 a9 a10 a0 a1 a2 a3 a4 a5 a6 a7 a8 a9 a10 = some true := by
  simp only [F42, F42_T, F64_self k a9 h9 k9, F65_self k a10 h10 k10, bne_self_eq_false, beq_self_eq_true, Bool.not_true, cond_false, Option.bind_some]

theorem join_eq (n : Nat) (a0 a1 a2 a3 a4 : Int) (a5 a6 a7 a8 : Bool) (a9 : List (den rng)) (a10 : List (den (.int .u8))) (b0 b1 b2 b3 b4 : Int) (b5 b6 b7 b8 : Bool) (b9 : List (den rng)) (b10 : List (den (.int .u8))) (ha : -9223372036854775808 ≤ a2 ∧ a2 ≤ 9223372036854775807) (h9 : a9.length ≤ 1048576) (h10 : a10.length ≤ 1048576) (g9 : b9.length ≤ 1048576) (g10 : b10.length ≤ 1048576) (k9 : a9.length < n + 4) (l9 : b9.length < n + 4) :
    F11 (n + 4) a0 a1 a2 a3 a4 a5 a6 a7 a8 a9 a10 b0 b1 b2 b3 b4 b5 b6 b7 b8 b9 b10 = F28 (n + 4) a0 a1 a2 a3 a4 a5 a6 a7 a8 a9 a10 b0 b1 b2 b3 b4 b5 b6 b7 b8 b9 b10 := by
  have hseq : okS a0 a1 a2 a3 a4 a5 a6 a7 a8 a9 a10 = true → F37 (n + 4) (IntKind.i64.wrap (a2 + longS a5 a7 a10)) = some (seqOf (IntKind.i64.wrap (a2 + longS a5 a7 a10))) := by
    intro h
    refine F37_val _ _ ?_
    have h2 : inB a2 0 65535 = true := by
      unfold okS at h
      simp only [Bool.and_eq_true] at h
      exact h.1.1.1.1.1.2
    unfold inB at h2
    simp only [Bool.and_eq_true, decide_eq_true_eq] at h2
    have : 0 ≤ longS a5 a7 a10 ∧ longS a5 a7 a10 ≤ 1048578 := by unfold longS; split <;> split <;> omega
    rw [i64_in _ (by omega)]
    omega
  simp only [F28, F28_T, F11, F11_T, F27_eq (n + 4) a0 a1 a2 a3 a4 a5 a6 a7 a8 a9 a10 h9 k9, F27_eq (n + 4) b0 b1 b2 b3 b4 b5 b6 b7 b8 b9 b10 g9 l9, F10_eq (n + 4) a0 a1 a2 a3 a4 a5 a6 a7 a8 a9 a10 h9 k9, F10_eq (n + 4) b0 b1 b2 b3 b4 b5 b6 b7 b8 b9 b10 g9 l9,
    F55_eq (n + 4) a0 a1 a2 a3 a4 a5 a6 a7 a8 a9 a10 b0 b1 b2 b3 b4 b5 b6 b7 b8 b9 b10 (by omega) k9, F36_eq (n + 4) a9 b9 (by omega) k9, F56_eq (n + 4) a0 a1 a2 a3 a4 a5 a6 a7 a8 a9 a10 h10, F9_eq (n + 4) a0 a1 a2 a3 a4 a5 a6 a7 a8 a9 a10 h10, F50_val, Option.bind_some, bind_cond]
  cases hok : okS a0 a1 a2 a3 a4 a5 a6 a7 a8 a9 a10 with
  | false => rfl
  | true =>
    rw [hseq hok]
    have e1 := F24_eq (n + 4) a0 a1 a2 a3 a4 a5 a6 a7 a8 a9 a10 (by omega) (by omega)
    have e2 := F38_eq n a10 b10 h10 g10
    have e3 := F29_eq (n + 4) a0 a1 a2 a3 a4 a5 a6 a7 a8 a9 a10 (by omega) (by omega)
    have e4 := F24_eq (n + 4) a0 a1 a2 a3 a4 a5 a6 b7 a8 a9 (a10 ++ b10) (by omega) (by simp; omega)
    simp only [e1, e2, e3, e4, Option.bind_some]
    rw [decide_eq_true (by omega : (a10.length + b10.length) * 1 ≤ 140737488355328)]
    rfl
/-! ### rows of segments -/
abbrev sgL : Type := List (den seg)
/-- the weight of a segment: how many marks it bears -/
def wS (s : den seg) : Int := 9 + 2 * (s.2.2.2.2.2.2.2.2.2.1.length : Int) + (s.2.2.2.2.2.2.2.2.2.2.length : Int)
theorem wS_pos (s : den seg) : 0 ≤ wS s := by unfold wS; omega
/-- a segment marked -/
def gS (y : Int) (s : den seg) : den seg :=
  (y, y + 1, y + 2, y + 3, y + 4, (y + 5).tmod 3 == 0, (y + 6).tmod 3 == 0, (y + 7).tmod 3 == 0, (y + 8).tmod 3 == 0, marks gR (fun _ => 2) (y + 9) s.2.2.2.2.2.2.2.2.2.1,
    marks gB (fun _ => 1) (y + 9 + 2 * (s.2.2.2.2.2.2.2.2.2.1.length : Int)) s.2.2.2.2.2.2.2.2.2.2)
theorem wS_gS (y : Int) (s : den seg) : wS (gS y s) = wS s := by simp [wS, gS, marks_len]
/-- its rows are no longer than this -/
def shortS (n : Nat) (s : den seg) : Prop := s.2.2.2.2.2.2.2.2.2.1.length ≤ n ∧ s.2.2.2.2.2.2.2.2.2.2.length ≤ n
theorem markS_step (k : Nat) (a0 : sgL) (a1 : Int) (n : Nat) (y : Int) (j : Nat) (m : sgL) (N : Nat) (h : j < m.length) (hm : m.length ≤ 4194304) (h0 : 0 ≤ y) (hB : y + wS m[j] ≤ 1099511627776) (hs : shortS N m[j]) (hN : N < k) :
    F17_l0 k a0 a1 (n + 1) y (j : Int) m = F17_l0 k a0 a1 n (y + wS m[j]) ((j + 1 : Nat) : Int) (m.set j (gS y m[j])) := by
  rw [F17_l0]
  unfold F17_l0_T
  rw [atI_get m j h, up1 j (by omega)]
  generalize m[j] = s at *
  obtain ⟨s0, s1, s2, s3, s4, s5, s6, s7, s8, s9, s10⟩ := s
  obtain ⟨hs9, hs10⟩ := hs
  simp only [wS] at hB
  simp only at hs9 hs10
  have d1 : decide ((j : Int) < ((m.length : Nat) : Int)) = true := decide_eq_true (by omega)
  have d0 : decide ((0 : Int) ≤ ((j : Nat) : Int)) = true := decide_eq_true (by omega)
  have w0 : IntKind.i64.wrap (y + 1) = y + 1 := by rw [i64_in _ (by omega)]
  have w1 : IntKind.i64.wrap (y + 1 + 1) = y + 2 := by rw [i64_in _ (by omega)]; omega
  have w2 : IntKind.i64.wrap (y + 2 + 1) = y + 3 := by rw [i64_in _ (by omega)]; omega
  have w3 : IntKind.i64.wrap (y + 3 + 1) = y + 4 := by rw [i64_in _ (by omega)]; omega
  have w4 : IntKind.i64.wrap (y + 4 + 1) = y + 5 := by rw [i64_in _ (by omega)]; omega
  have w5 : IntKind.i64.wrap (y + 5 + 1) = y + 6 := by rw [i64_in _ (by omega)]; omega
  have w6 : IntKind.i64.wrap (y + 6 + 1) = y + 7 := by rw [i64_in _ (by omega)]; omega
  have w7 : IntKind.i64.wrap (y + 7 + 1) = y + 8 := by rw [i64_in _ (by omega)]; omega
  have w8 : IntKind.i64.wrap (y + 8 + 1) = y + 9 := by rw [i64_in _ (by omega)]; omega
  rw [w0, w1, w2, w3, w4, w5, w6, w7, w8]
  refine (ct d1).trans ?_
  refine (ct d0).trans ?_
  refine (ct d1).trans ?_
  refine (bs (x := m.set j (y, s1, s2, s3, s4, s5, s6, s7, s8, s9, s10)) (rfl)).trans ?_
  refine (ct d0).trans ?_
  refine (ct (by rw [List.length_set]; exact d1)).trans ?_
  refine (bs (x := m.set j (y, y + 1, s2, s3, s4, s5, s6, s7, s8, s9, s10)) (by rw [atI_set h]; show some _ = some _; rw [Int.toNat_natCast, List.set_set])).trans ?_
  refine (ct d0).trans ?_
  refine (ct (by rw [List.length_set]; exact d1)).trans ?_
  refine (bs (x := m.set j (y, y + 1, y + 2, s3, s4, s5, s6, s7, s8, s9, s10)) (by rw [atI_set h]; show some _ = some _; rw [Int.toNat_natCast, List.set_set])).trans ?_
  refine (ct d0).trans ?_
  refine (ct (by rw [List.length_set]; exact d1)).trans ?_
  refine (bs (x := m.set j (y, y + 1, y + 2, y + 3, s4, s5, s6, s7, s8, s9, s10)) (by rw [atI_set h]; show some _ = some _; rw [Int.toNat_natCast, List.set_set])).trans ?_
  refine (ct d0).trans ?_
  refine (ct (by rw [List.length_set]; exact d1)).trans ?_
  refine (bs (x := m.set j (y, y + 1, y + 2, y + 3, y + 4, s5, s6, s7, s8, s9, s10)) (by rw [atI_set h]; show some _ = some _; rw [Int.toNat_natCast, List.set_set])).trans ?_
  refine (ct d0).trans ?_
  refine (ct (by rw [List.length_set]; exact d1)).trans ?_
  refine (bs (x := m.set j (y, y + 1, y + 2, y + 3, y + 4, ((y + 5).tmod 3 == 0), s6, s7, s8, s9, s10)) (by rw [atI_set h]; show some _ = some _; rw [Int.toNat_natCast, List.set_set])).trans ?_
  refine (ct d0).trans ?_
  refine (ct (by rw [List.length_set]; exact d1)).trans ?_
  refine (bs (x := m.set j (y, y + 1, y + 2, y + 3, y + 4, ((y + 5).tmod 3 == 0), ((y + 6).tmod 3 == 0), s7, s8, s9, s10)) (by rw [atI_set h]; show some _ = some _; rw [Int.toNat_natCast, List.set_set])).trans ?_
  refine (ct d0).trans ?_
  refine (ct (by rw [List.length_set]; exact d1)).trans ?_
  refine (bs (x := m.set j (y, y + 1, y + 2, y + 3, y + 4, ((y + 5).tmod 3 == 0), ((y + 6).tmod 3 == 0), ((y + 7).tmod 3 == 0), s8, s9, s10)) (by rw [atI_set h]; show some _ = some _; rw [Int.toNat_natCast, List.set_set])).trans ?_
  refine (ct d0).trans ?_
  refine (ct (by rw [List.length_set]; exact d1)).trans ?_
  refine (bs (x := m.set j (y, y + 1, y + 2, y + 3, y + 4, ((y + 5).tmod 3 == 0), ((y + 6).tmod 3 == 0), ((y + 7).tmod 3 == 0), ((y + 8).tmod 3 == 0), s9, s10)) (by rw [atI_set h]; show some _ = some _; rw [Int.toNat_natCast, List.set_set])).trans ?_
  refine (ct d0).trans ?_
  refine (ct (by rw [List.length_set]; exact d1)).trans ?_
  refine (bs (by rw [atI_set h]; exact F43_eq k s9 (y + 9) (by omega) (by omega) (by omega))).trans ?_
  refine (ct d0).trans ?_
  refine (ct (by rw [List.length_set, List.length_set]; exact d1)).trans ?_
  have h8 : j < (m.set j (y, y + 1, y + 2, y + 3, y + 4, ((y + 5).tmod 3 == 0), ((y + 6).tmod 3 == 0), ((y + 7).tmod 3 == 0), ((y + 8).tmod 3 == 0), s9, s10)).length := by rw [List.length_set]; exact h
  refine (bs (by rw [Int.toNat_natCast, atI_set h8, atI_set h]; exact F44_eq k s10 (y + 9 + 2 * (s9.length : Int)) (by omega) (by omega) (by omega))).trans ?_
  rw [Int.toNat_natCast, atI_set h8, atI_set h, List.set_set, List.set_set]
  show F17_l0 k a0 a1 n _ _ _ = _
  unfold wS gS
  have e : y + (9 + 2 * (s9.length : Int) + (s10.length : Int)) = y + 9 + 2 * (s9.length : Int) + (s10.length : Int) := by omega
  simp only [e]
theorem F17_eq (k : Nat) (l : sgL) (x : Int) (N : Nat) (hl : l.length ≤ 4194304) (hk : l.length < k) (hs : ∀ s ∈ l, shortS N s) (hN : N < k) (h0 : 0 ≤ x) (hB : x + sumS wS l ≤ 1099511627776) :
    F17 k l x = some (x + sumS wS l, marks gS wS x l) := by
  simp only [F17, F17_T]
  have main : ∀ (n : Nat) (y : Int) (d r : sgL), d.length + r.length = l.length → r.length < n → (∀ s ∈ r, shortS N s) → 0 ≤ y → y + sumS wS r ≤ 1099511627776 →
      F17_l0 k l x n y (d.length : Nat) (d ++ r) = some (y + sumS wS r, d ++ marks gS wS y r) := by
    intro n
    induction n with
    | zero => intro y d r _ h; omega
    | succ n ih =>
      intro y d r hN2 hn hr h0 hB
      cases r with
      | nil => simp [F17_l0, F17_l0_T, sumS, marks]
      | cons a r =>
        simp only [sumS] at hB
        have ha := wS_pos a
        have hr2 := sumS_nonneg wS_pos r
        have hj : d.length < (d ++ a :: r).length := by simp
        have hget : (d ++ a :: r)[d.length] = a := by simp
        rw [markS_step k l x n y d.length (d ++ a :: r) N hj (by simp at hN2 ⊢; omega) h0 (by rw [hget]; omega) (by rw [hget]; exact hr a (by simp)) hN, hget]
        have := ih (y + wS a) (d ++ [gS y a]) r (by simp at hN2 ⊢; omega) (by simp at hn; omega) (fun s hs => hr s (by simp [hs])) (by omega) (by omega)
        simp only [List.length_append, List.length_singleton, List.append_assoc, List.singleton_append] at this
        rw [show (d ++ a :: r).set d.length (gS y a) = d ++ gS y a :: r by simp, this]
        simp [sumS, marks, Int.add_assoc]
  have := main k x [] l (by simp) hk hs h0 hB
  simpa using this
/-- a segment that bears marks -/
def bears (N : Nat) (y : Int) (s : den seg) : Prop := ∃ b : den seg, s = gS y b ∧ shortS N b
theorem heldS_step (k : Nat) (l : sgL) (x : Int) (n : Nat) (y : Int) (j : Nat) (N : Nat) (h : j < l.length) (hl : l.length ≤ 4194304) (ht : bears N y l[j]) (h0 : 0 ≤ y) (hB : y + wS l[j] ≤ 1099511627776) (hN : N < k) :
    F18_l0 k l x (n + 1) y (j : Int) = F18_l0 k l x n (y + wS l[j]) ((j + 1 : Nat) : Int) := by
  rw [F18_l0]
  unfold F18_l0_T
  rw [atI_get l j h, up1 j (by omega)]
  obtain ⟨b, hb, hs9, hs10⟩ := ht
  generalize l[j] = s at *
  subst hb
  obtain ⟨s0, s1, s2, s3, s4, s5, s6, s7, s8, s9, s10⟩ := b
  rw [wS_gS] at hB ⊢
  simp only [wS] at hB
  simp only at hs9 hs10
  have d1 : decide ((j : Int) < ((l.length : Nat) : Int)) = true := decide_eq_true (by omega)
  have d0 : decide ((0 : Int) ≤ ((j : Nat) : Int)) = true := decide_eq_true (by omega)
  have w0 : IntKind.i64.wrap (y + 1) = y + 1 := by rw [i64_in _ (by omega)]
  have w1 : IntKind.i64.wrap (y + 1 + 1) = y + 2 := by rw [i64_in _ (by omega)]; omega
  have w2 : IntKind.i64.wrap (y + 2 + 1) = y + 3 := by rw [i64_in _ (by omega)]; omega
  have w3 : IntKind.i64.wrap (y + 3 + 1) = y + 4 := by rw [i64_in _ (by omega)]; omega
  have w4 : IntKind.i64.wrap (y + 4 + 1) = y + 5 := by rw [i64_in _ (by omega)]; omega
  have w5 : IntKind.i64.wrap (y + 5 + 1) = y + 6 := by rw [i64_in _ (by omega)]; omega
  have w6 : IntKind.i64.wrap (y + 6 + 1) = y + 7 := by rw [i64_in _ (by omega)]; omega
  have w7 : IntKind.i64.wrap (y + 7 + 1) = y + 8 := by rw [i64_in _ (by omega)]; omega
  have w8 : IntKind.i64.wrap (y + 8 + 1) = y + 9 := by rw [i64_in _ (by omega)]; omega
  rw [w0, w1, w2, w3, w4, w5, w6, w7, w8]
  refine (ct d1).trans ?_
  refine (ct d0).trans ?_
  refine (ct d1).trans ?_
  refine (cf (by unfold gS; simp)).trans ?_
  refine (ct d0).trans ?_
  refine (ct d1).trans ?_
  refine (cf (by unfold gS; simp)).trans ?_
  refine (ct d0).trans ?_
  refine (ct d1).trans ?_
  refine (cf (by unfold gS; simp)).trans ?_
  refine (ct d0).trans ?_
  refine (ct d1).trans ?_
  refine (cf (by unfold gS; simp)).trans ?_
  refine (ct d0).trans ?_
  refine (ct d1).trans ?_
  refine (cf (by unfold gS; simp)).trans ?_
  refine (ct d0).trans ?_
  refine (ct d1).trans ?_
  refine (cf (by unfold gS; simp)).trans ?_
  refine (ct d0).trans ?_
  refine (ct d1).trans ?_
  refine (cf (by unfold gS; simp)).trans ?_
  refine (ct d0).trans ?_
  refine (ct d1).trans ?_
  refine (cf (by unfold gS; simp)).trans ?_
  refine (ct d0).trans ?_
  refine (ct d1).trans ?_
  refine (cf (by unfold gS; simp)).trans ?_
  refine (ct d0).trans ?_
  refine (ct d1).trans ?_
  refine (bs (F45_eq k s9 (y + 9) (by omega) (by omega) (by omega))).trans ?_
  refine (cf (decide_eq_false (by omega))).trans ?_
  refine (ct d0).trans ?_
  refine (ct d1).trans ?_
  refine (bs (F46_eq k s10 (y + 9 + 2 * (s9.length : Int)) (by omega) (by omega) (by omega))).trans ?_
  refine (cf (decide_eq_false (by omega))).trans ?_
  show F18_l0 k l x n _ _ = _
  unfold wS
  have e : y + (9 + 2 * (s9.length : Int) + (s10.length : Int)) = y + 9 + 2 * (s9.length : Int) + (s10.length : Int) := by omega
  simp only [e]
theorem F18_eq (k : Nat) (l : sgL) (x : Int) (N : Nat) (hl : l.length ≤ 4194304) (hk : l.length < k) (hs : ∀ s ∈ l, shortS N s) (hN : N < k) (h0 : 0 ≤ x) (hB : x + sumS wS l ≤ 1099511627776) :
    F18 k (marks gS wS x l) x = some (x + sumS wS l) := by
  have hlen := marks_len gS wS x l
  have hsum := sumS_marks (g := gS) (s := wS) wS_gS x l
  have hh := Helds_mem (t := bears N) (g := gS) (s := wS) wS_gS x l (fun y a ha => ⟨a, rfl, hs a ha⟩)
  generalize marks gS wS x l = m at hlen hsum hh
  have := heldLoop 1099511627776 m (fun n y j => F18_l0 k m x n y j) (bears N) wS (fun x => x) wS_pos
    (fun n y j h ht h0 hB => heldS_step k m x n y j N h (by omega) ht h0 hB hN)
    (fun n y => by simp [F18_l0, F18_l0_T]) k x 0 (Nat.zero_le _) (by omega) h0 (by rw [List.drop_zero, hsum]; exact hB) (by rw [List.drop_zero]; exact hh)
  rw [List.drop_zero, hsum] at this
  simp only [F18, F18_T]
  exact this
theorem F16_self (k : Nat) (l : sgL) (N : Nat) (hl : l.length ≤ 4194304) (hk : l.length < k) (hs : ∀ s ∈ l, shortS N s) (hN : N < k) (hN2 : N ≤ 4194304) : F16 k l l = some true := by
  have := foldLoop l (fun n (_ : Unit) j => F16_l0 k l l n j) (fun s _ => s) (fun _ => true)
    (fun n s j h => by
      obtain ⟨h9, h10⟩ := hs l[j] (List.getElem_mem h)
      simp only [F16_l0, F16_l0_T]
      rw [atI_get l j h, up1 j (by omega), F42_self k _ _ _ _ _ _ _ _ _ _ _ (by omega) (by omega) (by omega) (by omega)]
      simp [h])
    (fun n s => by simp [F16_l0, F16_l0_T]) k () 0 (Nat.zero_le _) (by omega)
  simp only [F16, F16_T, bne_self_eq_false, cond_false]
  exact this

/-! ### joined rows -/
abbrev T12 : Type := Int × Int × Int × Int × Int × Bool × Bool × Bool × Bool × List (den rng) × List (den (.int .u8)) × Bool
def joinV (a0 a1 a2 a3 a4 : Int) (a5 a6 a7 a8 : Bool) (a9 : List (den rng)) (a10 : List (den (.int .u8))) (b0 b1 b2 b3 b4 : Int) (b5 b6 b7 b8 : Bool) (b9 : List (den rng)) (b10 : List (den (.int .u8))) : Int × Int × Int × Int × Int × Bool × Bool × Bool × Bool × List (den rng) × List (den (.int .u8)) × Bool :=
  cond (!(okS a0 a1 a2 a3 a4 a5 a6 a7 a8 a9 a10)) (0, 0, 0, 0, 0, false, false, false, false, [], [], false) (cond (!(okS b0 b1 b2 b3 b4 b5 b6 b7 b8 b9 b10)) (0, 0, 0, 0, 0, false, false, false, false, [], [], false)
  (cond (a0 != b0) (0, 0, 0, 0, 0, false, false, false, false, [], [], false) (cond (a1 != b1) (0, 0, 0, 0, 0, false, false, false, false, [], [], false)
  (cond (!(a6 == b6)) (0, 0, 0, 0, 0, false, false, false, false, [], [], false) (cond (a3 != b3) (0, 0, 0, 0, 0, false, false, false, false, [], [], false)
  (cond (a4 != b4) (0, 0, 0, 0, 0, false, false, false, false, [], [], false) (cond (!(decide (a9 = b9))) (0, 0, 0, 0, 0, false, false, false, false, [], [], false)
  (cond a8 (0, 0, 0, 0, 0, false, false, false, false, [], [], false) (cond b8 (0, 0, 0, 0, 0, false, false, false, false, [], [], false)
  (cond (((a10.length : Nat) : Int) == 0) (0, 0, 0, 0, 0, false, false, false, false, [], [], false) (cond (((b10.length : Nat) : Int) == 0) (0, 0, 0, 0, 0, false, false, false, false, [], [], false)
  (cond a7 (0, 0, 0, 0, 0, false, false, false, false, [], [], false) (cond b5 (0, 0, 0, 0, 0, false, false, false, false, [], [], false)
  (cond (b2 != seqOf (IntKind.i64.wrap (a2 + longS a5 a7 a10))) (0, 0, 0, 0, 0, false, false, false, false, [], [], false)
  (cond (decide ((IntKind.i64.wrap (((a10.length : Nat) : Int) + ((b10.length : Nat) : Int))) > 12)) (0, 0, 0, 0, 0, false, false, false, false, [], [], false)
  (a0, a1, a2, a3, a4, a5, a6, b7, a8, a9, a10 ++ b10, true))))))))))))))))
theorem join_val (k : Nat) (a0 a1 a2 a3 a4 : Int) (a5 a6 a7 a8 : Bool) (a9 : List (den rng)) (a10 : List (den (.int .u8))) (b0 b1 b2 b3 b4 : Int) (b5 b6 b7 b8 : Bool) (b9 : List (den rng)) (b10 : List (den (.int .u8))) (h9 : a9.length ≤ 1048576) (h10 : a10.length ≤ 1048576) (g9 : b9.length ≤ 1048576) (g10 : b10.length ≤ 1048576) (k9 : a9.length < k) (l9 : b9.length < k) :
    F28 k a0 a1 a2 a3 a4 a5 a6 a7 a8 a9 a10 b0 b1 b2 b3 b4 b5 b6 b7 b8 b9 b10 = some (joinV a0 a1 a2 a3 a4 a5 a6 a7 a8 a9 a10 b0 b1 b2 b3 b4 b5 b6 b7 b8 b9 b10) := by
  simp only [F28, F28_T, F27_eq k a0 a1 a2 a3 a4 a5 a6 a7 a8 a9 a10 h9 k9, F27_eq k b0 b1 b2 b3 b4 b5 b6 b7 b8 b9 b10 g9 l9, F55_eq k a0 a1 a2 a3 a4 a5 a6 a7 a8 a9 a10 b0 b1 b2 b3 b4 b5 b6 b7 b8 b9 b10 (by omega) k9,
    F56_eq k a0 a1 a2 a3 a4 a5 a6 a7 a8 a9 a10 h10, F50_val, F29_eq k a0 a1 a2 a3 a4 a5 a6 a7 a8 a9 a10 (by omega) (by omega), Option.bind_some, bind_cond]
  rw [decide_eq_true (by omega : (a10.length + b10.length) * 1 ≤ 140737488355328)]
  simp only [cond_true, cond_false, Bool.not_false, Bool.not_true, some_cond]
  rfl
/-- two segments joined, if they can be -/
def jn (a b : den seg) : Option (den seg) :=
  cond (joinV a.1 a.2.1 a.2.2.1 a.2.2.2.1 a.2.2.2.2.1 a.2.2.2.2.2.1 a.2.2.2.2.2.2.1 a.2.2.2.2.2.2.2.1 a.2.2.2.2.2.2.2.2.1 a.2.2.2.2.2.2.2.2.2.1 a.2.2.2.2.2.2.2.2.2.2 b.1 b.2.1 b.2.2.1 b.2.2.2.1 b.2.2.2.2.1 b.2.2.2.2.2.1 b.2.2.2.2.2.2.1 b.2.2.2.2.2.2.2.1 b.2.2.2.2.2.2.2.2.1 b.2.2.2.2.2.2.2.2.2.1 b.2.2.2.2.2.2.2.2.2.2).2.2.2.2.2.2.2.2.2.2.2
    (some (a.1, a.2.1, a.2.2.1, a.2.2.2.1, a.2.2.2.2.1, a.2.2.2.2.2.1, a.2.2.2.2.2.2.1, b.2.2.2.2.2.2.2.1, a.2.2.2.2.2.2.2.2.1, a.2.2.2.2.2.2.2.2.2.1, a.2.2.2.2.2.2.2.2.2.2 ++ b.2.2.2.2.2.2.2.2.2.2)) none
/-- is it a segment -/
def okD (s : den seg) : Bool := okS s.1 s.2.1 s.2.2.1 s.2.2.2.1 s.2.2.2.2.1 s.2.2.2.2.2.1 s.2.2.2.2.2.2.1 s.2.2.2.2.2.2.2.1 s.2.2.2.2.2.2.2.2.1 s.2.2.2.2.2.2.2.2.2.1 s.2.2.2.2.2.2.2.2.2.2
theorem cond_z {α : Type} {c : Bool} {z x : α} {f : α → Bool} (hz : f z = false) (h : f (cond c z x) = true) : c = false ∧ f x = true := by
  cases c with
  | true => rw [cond_true, hz] at h; cases h
  | false => exact ⟨rfl, h⟩
/-- what is known of two that are joined -/
theorem joinV_true {a0 a1 a2 a3 a4 : Int} {a5 a6 a7 a8 : Bool} {a9 : List (den rng)} {a10 : List (den (.int .u8))} {b0 b1 b2 b3 b4 : Int} {b5 b6 b7 b8 : Bool} {b9 : List (den rng)} {b10 : List (den (.int .u8))} (h : (joinV a0 a1 a2 a3 a4 a5 a6 a7 a8 a9 a10 b0 b1 b2 b3 b4 b5 b6 b7 b8 b9 b10).2.2.2.2.2.2.2.2.2.2.2 = true) :
    joinV a0 a1 a2 a3 a4 a5 a6 a7 a8 a9 a10 b0 b1 b2 b3 b4 b5 b6 b7 b8 b9 b10 = (a0, a1, a2, a3, a4, a5, a6, b7, a8, a9, a10 ++ b10, true) ∧ okS a0 a1 a2 a3 a4 a5 a6 a7 a8 a9 a10 = true ∧ okS b0 b1 b2 b3 b4 b5 b6 b7 b8 b9 b10 = true ∧ (a0 = b0 ∧ a1 = b1 ∧ a6 = b6 ∧ a3 = b3 ∧ a4 = b4 ∧ a9 = b9) ∧ (a8 = false ∧ b8 = false ∧ a7 = false ∧ b5 = false) ∧
      (a10.length ≠ 0 ∧ b10.length ≠ 0) ∧ b2 = seqOf (IntKind.i64.wrap (a2 + longS a5 a7 a10)) ∧ IntKind.i64.wrap (((a10.length : Nat) : Int) + ((b10.length : Nat) : Int)) ≤ 12 := by
  unfold joinV at h
  obtain ⟨c1, h⟩ := cond_z (f := fun r : T12 => r.2.2.2.2.2.2.2.2.2.2.2) rfl h
  obtain ⟨c2, h⟩ := cond_z (f := fun r : T12 => r.2.2.2.2.2.2.2.2.2.2.2) rfl h
  obtain ⟨c3, h⟩ := cond_z (f := fun r : T12 => r.2.2.2.2.2.2.2.2.2.2.2) rfl h
  obtain ⟨c4, h⟩ := cond_z (f := fun r : T12 => r.2.2.2.2.2.2.2.2.2.2.2) rfl h
  obtain ⟨c5, h⟩ := cond_z (f := fun r : T12 => r.2.2.2.2.2.2.2.2.2.2.2) rfl h
  obtain ⟨c6, h⟩ := cond_z (f := fun r : T12 => r.2.2.2.2.2.2.2.2.2.2.2) rfl h
  obtain ⟨c7, h⟩ := cond_z (f := fun r : T12 => r.2.2.2.2.2.2.2.2.2.2.2) rfl h
  obtain ⟨c8, h⟩ := cond_z (f := fun r : T12 => r.2.2.2.2.2.2.2.2.2.2.2) rfl h
  obtain ⟨c9, h⟩ := cond_z (f := fun r : T12 => r.2.2.2.2.2.2.2.2.2.2.2) rfl h
  obtain ⟨c10, h⟩ := cond_z (f := fun r : T12 => r.2.2.2.2.2.2.2.2.2.2.2) rfl h
  obtain ⟨c11, h⟩ := cond_z (f := fun r : T12 => r.2.2.2.2.2.2.2.2.2.2.2) rfl h
  obtain ⟨c12, h⟩ := cond_z (f := fun r : T12 => r.2.2.2.2.2.2.2.2.2.2.2) rfl h
  obtain ⟨c13, h⟩ := cond_z (f := fun r : T12 => r.2.2.2.2.2.2.2.2.2.2.2) rfl h
  obtain ⟨c14, h⟩ := cond_z (f := fun r : T12 => r.2.2.2.2.2.2.2.2.2.2.2) rfl h
  obtain ⟨c15, h⟩ := cond_z (f := fun r : T12 => r.2.2.2.2.2.2.2.2.2.2.2) rfl h
  obtain ⟨c16, h⟩ := cond_z (f := fun r : T12 => r.2.2.2.2.2.2.2.2.2.2.2) rfl h
  have e : joinV a0 a1 a2 a3 a4 a5 a6 a7 a8 a9 a10 b0 b1 b2 b3 b4 b5 b6 b7 b8 b9 b10 = (a0, a1, a2, a3, a4, a5, a6, b7, a8, a9, a10 ++ b10, true) := by
    unfold joinV
    exact ((cf c1).trans ((cf c2).trans ((cf c3).trans ((cf c4).trans ((cf c5).trans ((cf c6).trans ((cf c7).trans ((cf c8).trans ((cf c9).trans ((cf c10).trans ((cf c11).trans ((cf c12).trans ((cf c13).trans ((cf c14).trans ((cf c15).trans (cf c16))))))))))))))))
  refine ⟨e, by simpa using c1, by simpa using c2, ⟨by simpa using c3, by simpa using c4, by simpa using c5, by simpa using c6, by simpa using c7, by simpa using c8⟩, ⟨c9, c10, c13, c14⟩, ⟨fun e => ?_, fun e => ?_⟩, by simpa using c15, by simpa using c16⟩
  · rw [e] at c11; cases c11
  · rw [e] at c12; cases c12
/-- a row joined, one more segment -/
def stJ (out : sgL) (s : den seg) : sgL :=
  match out.getLast? with
  | some p => (match jn p s with | some x => out.dropLast ++ [x] | none => out ++ [s])
  | none => [s]
def joinAll (l : sgL) : sgL := cond (l.all okD) (l.foldl stJ []) []

theorem jn_short {n : Nat} {a b x : den seg} (hn : 12 ≤ n) (hN : n ≤ 1048576) (ha : shortS n a) (hb : shortS n b) (h : jn a b = some x) : shortS n x := by
  unfold jn at h
  cases hj : (joinV a.1 a.2.1 a.2.2.1 a.2.2.2.1 a.2.2.2.2.1 a.2.2.2.2.2.1 a.2.2.2.2.2.2.1 a.2.2.2.2.2.2.2.1 a.2.2.2.2.2.2.2.2.1 a.2.2.2.2.2.2.2.2.2.1 a.2.2.2.2.2.2.2.2.2.2 b.1 b.2.1 b.2.2.1 b.2.2.2.1 b.2.2.2.2.1 b.2.2.2.2.2.1 b.2.2.2.2.2.2.1 b.2.2.2.2.2.2.2.1 b.2.2.2.2.2.2.2.2.1 b.2.2.2.2.2.2.2.2.2.1 b.2.2.2.2.2.2.2.2.2.2).2.2.2.2.2.2.2.2.2.2.2 with
  | false => rw [hj] at h; cases h
  | true =>
    rw [hj] at h
    simp only [cond_true, Option.some.injEq] at h
    obtain ⟨_, _, _, _, _, _, _, h12⟩ := joinV_true hj
    obtain ⟨ha9, ha10⟩ := ha
    obtain ⟨hb9, hb10⟩ := hb
    rw [i64_in _ (by omega)] at h12
    subst h
    refine ⟨ha9, ?_⟩
    simp only [List.length_append]
    omega
theorem stJ_short {n : Nat} (hn : 12 ≤ n) (hN : n ≤ 1048576) {out : sgL} {s : den seg} (ho : ∀ x ∈ out, shortS n x) (hs : shortS n s) : (∀ x ∈ stJ out s, shortS n x) ∧ (stJ out s).length ≤ out.length + 1 := by
  unfold stJ
  cases hl : out.getLast? with
  | none =>
    refine ⟨fun x hx => ?_, by simp⟩
    obtain rfl := List.mem_singleton.1 hx
    exact hs
  | some p =>
    have hp : p ∈ out := List.mem_of_getLast? hl
    have hne : out ≠ [] := by intro e; subst e; simp at hl
    have hpos : 0 < out.length := List.length_pos_iff.2 hne
    simp only
    cases hj : jn p s with
    | none =>
      refine ⟨fun x hx => ?_, by simp⟩
      rcases List.mem_append.1 hx with hx | hx
      · exact ho x hx
      · obtain rfl := List.mem_singleton.1 hx
        exact hs
    | some y =>
      refine ⟨fun x hx => ?_, by simp <;> omega⟩
      rcases List.mem_append.1 hx with hx | hx
      · exact ho x (List.dropLast_subset _ hx)
      · obtain rfl := List.mem_singleton.1 hx
        exact jn_short hn hN (ho p hp) hs hj
theorem foldJ_short {n : Nat} (hn : 12 ≤ n) (hN : n ≤ 1048576) : ∀ (l out : sgL), (∀ x ∈ out, shortS n x) → (∀ x ∈ l, shortS n x) → (∀ x ∈ l.foldl stJ out, shortS n x) ∧ (l.foldl stJ out).length ≤ out.length + l.length
  | [], out, ho, _ => ⟨ho, by simp⟩
  | a :: l, out, ho, hl => by
    obtain ⟨h1, h2⟩ := stJ_short hn hN ho (hl a (by simp))
    obtain ⟨h3, h4⟩ := foldJ_short hn hN l (stJ out a) h1 (fun x hx => hl x (by simp [hx]))
    refine ⟨h3, ?_⟩
    simp only [List.foldl_cons, List.length_cons]
    omega
theorem joinAll_short {n : Nat} (hn : 12 ≤ n) (hN : n ≤ 1048576) (l : sgL) (hl : ∀ x ∈ l, shortS n x) : (∀ x ∈ joinAll l, shortS n x) ∧ (joinAll l).length ≤ l.length := by
  unfold joinAll
  cases l.all okD with
  | false => exact ⟨fun x hx => by simp at hx, by simp⟩
  | true =>
    have := foldJ_short hn hN l [] (by simp) hl
    simpa using this
/-- one more segment, as both programs do it -/
theorem last_at (out : sgL) (hne : out ≠ []) : ∃ p, out.getLast? = some p ∧ atI out ((out.length : Int) - 1) = p ∧ ∀ v : den seg, out.set ((out.length : Int) - 1).toNat v = out.dropLast ++ [v] := by
  obtain ⟨d, p, rfl⟩ := snoc_of hne
  refine ⟨p, by simp, ?_, fun v => ?_⟩
  · have : (((d ++ [p]).length : Int) - 1) = ((d.length : Nat) : Int) := by simp
    rw [this, atI_get (d ++ [p]) d.length (by simp)]
    simp
  · have : (((d ++ [p]).length : Int) - 1).toNat = d.length := by simp
    rw [this]
    simp
theorem F8_l2v (n : Nat) (l : sgL) (hl : l.length ≤ 1048576) (hs : ∀ s ∈ l, shortS 1048576 s) (hk : 1048576 < n) (hk2 : l.length < n) : F8_l2 n l n 0 [] = some (l.foldl stJ []) := by
  have hget : ∀ (j : Nat) (h : j < l.length), shortS 1048576 l[j] := fun j h => hs _ (List.getElem_mem h)
  have := foldLoopI l (fun j (out : sgL) => out.length ≤ j ∧ ∀ x ∈ out, shortS 1048576 x) (fun m out j => F8_l2 n l m j out) stJ id
    (fun m out j h ⟨hlen, ho⟩ => by
      obtain ⟨g9, g10⟩ := hget j h
      have d1 : decide ((j : Int) < ((l.length : Nat) : Int)) = true := decide_eq_true (by omega)
      have d0 : decide ((0 : Int) ≤ ((j : Nat) : Int)) = true := decide_eq_true (by omega)
      have hcp := F29_eq n l[j].1 l[j].2.1 l[j].2.2.1 l[j].2.2.2.1 l[j].2.2.2.2.1 l[j].2.2.2.2.2.1 l[j].2.2.2.2.2.2.1 l[j].2.2.2.2.2.2.2.1 l[j].2.2.2.2.2.2.2.2.1 l[j].2.2.2.2.2.2.2.2.2.1 l[j].2.2.2.2.2.2.2.2.2.2 (by omega) (by omega)
      rw [F8_l2]
      unfold F8_l2_T F8_l2_j1
      rw [atI_get l j h, up1 j (by omega), i64_in (((out.length : Nat) : Int) - 1) (by omega)]
      have hj1 : ∀ (x : den seg), decide ((out.length + [x].length) * 96 ≤ 140737488355328) = true := fun x => decide_eq_true (by simp; omega)
      refine (ct d1).trans ?_
      by_cases hne : out = []
      · subst hne
        refine (cf (by simp)).trans ?_
        refine (ct d0).trans ?_
        refine (ct d1).trans ?_
        refine (bs hcp).trans ?_
        refine (ct (hj1 _)).trans ?_
        rfl
      · obtain ⟨p, hp1, hp2, hp3⟩ := last_at out hne
        have hpos : 0 < out.length := List.length_pos_iff.2 hne
        obtain ⟨p9, p10⟩ := ho p (List.mem_of_getLast? hp1)
        have d2 : decide ((0 : Int) ≤ ((out.length : Nat) : Int) - 1) = true := decide_eq_true (by omega)
        have d3 : decide (((out.length : Nat) : Int) - 1 < ((out.length : Nat) : Int)) = true := decide_eq_true (by omega)
        have hjv := join_val n p.1 p.2.1 p.2.2.1 p.2.2.2.1 p.2.2.2.2.1 p.2.2.2.2.2.1 p.2.2.2.2.2.2.1 p.2.2.2.2.2.2.2.1 p.2.2.2.2.2.2.2.2.1 p.2.2.2.2.2.2.2.2.2.1 p.2.2.2.2.2.2.2.2.2.2 l[j].1 l[j].2.1 l[j].2.2.1 l[j].2.2.2.1 l[j].2.2.2.2.1 l[j].2.2.2.2.2.1 l[j].2.2.2.2.2.2.1 l[j].2.2.2.2.2.2.2.1 l[j].2.2.2.2.2.2.2.2.1 l[j].2.2.2.2.2.2.2.2.2.1 l[j].2.2.2.2.2.2.2.2.2.2 p9 p10 g9 g10 (by omega) (by omega)
        rw [hp2]
        refine (ct d2).trans ?_
        refine (ct d2).trans ?_
        refine (ct d3).trans ?_
        refine (ct d0).trans ?_
        refine (ct d1).trans ?_
        refine (bs hjv).trans ?_
        have hst : stJ out l[j] = (match jn p l[j] with | some x => out.dropLast ++ [x] | none => out ++ [l[j]]) := by unfold stJ; rw [hp1]
        rw [hst]
        unfold jn
        cases hf : (joinV p.1 p.2.1 p.2.2.1 p.2.2.2.1 p.2.2.2.2.1 p.2.2.2.2.2.1 p.2.2.2.2.2.2.1 p.2.2.2.2.2.2.2.1 p.2.2.2.2.2.2.2.2.1 p.2.2.2.2.2.2.2.2.2.1 p.2.2.2.2.2.2.2.2.2.2 l[j].1 l[j].2.1 l[j].2.2.1 l[j].2.2.2.1 l[j].2.2.2.2.1 l[j].2.2.2.2.2.1 l[j].2.2.2.2.2.2.1 l[j].2.2.2.2.2.2.2.1 l[j].2.2.2.2.2.2.2.2.1 l[j].2.2.2.2.2.2.2.2.2.1 l[j].2.2.2.2.2.2.2.2.2.2).2.2.2.2.2.2.2.2.2.2.2 with
        | true =>
          obtain ⟨e, _⟩ := joinV_true hf
          refine (ct rfl).trans ?_
          refine (ct d2).trans ?_
          refine (ct d3).trans ?_
          rw [e, hp3]
          refine (bs rfl).trans ?_
          rfl
        | false =>
          refine (cf rfl).trans ?_
          refine (ct d0).trans ?_
          refine (ct d1).trans ?_
          refine (bs hcp).trans ?_
          refine (ct (hj1 _)).trans ?_
          rfl)
    (fun out j h ⟨hlen, ho⟩ => by
      obtain ⟨h1, h2⟩ := stJ_short (n := 1048576) (by decide) (by decide) ho (hget j h)
      exact ⟨by omega, h1⟩)
    (fun m out _ => by simp [F8_l2, F8_l2_T]) n [] 0 (Nat.zero_le _) (by omega) ⟨by simp, by simp⟩
  simpa using this
theorem F8_eq (n : Nat) (l : sgL) (hl : l.length ≤ 1048576) (hs : ∀ s ∈ l, shortS 1048576 s) (hk : 1048576 < n) (hk2 : l.length < n) : F8 n l = some (joinAll l) := by
  have := scanLoop l (fun m (_ : Unit) j => F8_l0 n l m j) (fun _ _ a => cond (okD a) (.inl ()) (.inr [])) (fun _ => l.foldl stJ [])
    (fun m s j h => by
      obtain ⟨g9, g10⟩ := hs l[j] (List.getElem_mem h)
      simp only [F8_l0, F8_l0_T]
      rw [atI_get l j h, F27_eq n l[j].1 l[j].2.1 l[j].2.2.1 l[j].2.2.2.1 l[j].2.2.2.2.1 l[j].2.2.2.2.2.1 l[j].2.2.2.2.2.2.1 l[j].2.2.2.2.2.2.2.1 l[j].2.2.2.2.2.2.2.2.1 l[j].2.2.2.2.2.2.2.2.2.1 l[j].2.2.2.2.2.2.2.2.2.2 g9 (by omega), up1 j (by omega)]
      simp only [Option.bind_some]
      rw [decide_eq_true (by omega : ((j : Nat) : Int) < (l.length : Nat)), decide_eq_true (by omega : (0 : Int) ≤ (j : Nat))]
      unfold okD
      cases okS l[j].1 l[j].2.1 l[j].2.2.1 l[j].2.2.2.1 l[j].2.2.2.2.1 l[j].2.2.2.2.2.1 l[j].2.2.2.2.2.2.1 l[j].2.2.2.2.2.2.2.1 l[j].2.2.2.2.2.2.2.2.1 l[j].2.2.2.2.2.2.2.2.2.1 l[j].2.2.2.2.2.2.2.2.2.2 <;> rfl)
    (fun m s => by
      simp only [F8_l0, F8_l0_T]
      rw [decide_eq_false (by omega : ¬ ((l.length : Nat) : Int) < (l.length : Nat)), cond_false, F8_l2v n l hl hs hk hk2]) n () 0 (Nat.zero_le _) (by omega)
  rw [List.drop_zero] at this
  have hsc : ∀ (r : sgL) (j : Nat), scan (fun (_ : Unit) _ a => cond (okD a) (.inl ()) (.inr ([] : sgL))) (fun _ => l.foldl stJ []) () j r = cond (r.all okD) (l.foldl stJ []) [] := by
    intro r
    induction r with
    | nil => intro j; rfl
    | cons a r ih =>
      intro j
      rw [scan, List.all_cons]
      cases okD a with
      | true => simpa using ih (j + 1)
      | false => rfl
  rw [hsc] at this
  simp only [F8, F8_T]
  exact this
theorem F25_eq (k : Nat) (l : sgL) : F25 k l = some l := by
  simp only [F25, F25_T]
  rw [decide_eq_true (by omega : (0 : Int) ≤ ((l.length : Nat) : Int))]
  simp
theorem F6_eq (n : Nat) (l : sgL) (hl : l.length ≤ 1048576) (hw : ∀ s ∈ l, -9223372036854775808 ≤ s.2.2.1 ∧ s.2.2.1 ≤ 9223372036854775807) (hs : ∀ s ∈ l, shortS 1048576 s) (hk : 1048576 < n + 4) (hk2 : l.length < n + 4) : F6 (n + 4) l = some (joinAll l) := by
  have hget : ∀ (j : Nat) (h : j < l.length), shortS 1048576 l[j] := fun j h => hs _ (List.getElem_mem h)
  have := scanLoopI l (fun j (out : sgL) => out.length ≤ j ∧ ∀ x ∈ out, shortS 1048576 x ∧ (-9223372036854775808 ≤ x.2.2.1 ∧ x.2.2.1 ≤ 9223372036854775807)) (fun m out j => F6_l0 (n + 4) l m j out)
    (fun out _ a => cond (okD a) (.inl (stJ out a)) (.inr [])) id
    (fun m out j h ⟨hlen, ho⟩ => by
      obtain ⟨g9, g10⟩ := hget j h
      have d1 : decide ((j : Int) < ((l.length : Nat) : Int)) = true := decide_eq_true (by omega)
      have d0 : decide ((0 : Int) ≤ ((j : Nat) : Int)) = true := decide_eq_true (by omega)
      have hcp := F24_eq (n + 4) l[j].1 l[j].2.1 l[j].2.2.1 l[j].2.2.2.1 l[j].2.2.2.2.1 l[j].2.2.2.2.2.1 l[j].2.2.2.2.2.2.1 l[j].2.2.2.2.2.2.2.1 l[j].2.2.2.2.2.2.2.2.1 l[j].2.2.2.2.2.2.2.2.2.1 l[j].2.2.2.2.2.2.2.2.2.2 (by omega) (by omega)
      have hok := F10_eq (n + 4) l[j].1 l[j].2.1 l[j].2.2.1 l[j].2.2.2.1 l[j].2.2.2.2.1 l[j].2.2.2.2.2.1 l[j].2.2.2.2.2.2.1 l[j].2.2.2.2.2.2.2.1 l[j].2.2.2.2.2.2.2.2.1 l[j].2.2.2.2.2.2.2.2.2.1 l[j].2.2.2.2.2.2.2.2.2.2 g9 (by omega)
      rw [F6_l0]
      unfold F6_l0_T F6_l0_j1
      rw [atI_get l j h, up1 j (by omega), i64_in (((out.length : Nat) : Int) - 1) (by omega)]
      have hj1 : ∀ (x : den seg), decide ((out.length + [x].length) * 96 ≤ 140737488355328) = true := fun x => decide_eq_true (by simp; omega)
      refine (ct d1).trans ?_
      refine (ct d0).trans ?_
      refine (ct d1).trans ?_
      refine (bs hok).trans ?_
      have hokd : okD l[j] = okS l[j].1 l[j].2.1 l[j].2.2.1 l[j].2.2.2.1 l[j].2.2.2.2.1 l[j].2.2.2.2.2.1 l[j].2.2.2.2.2.2.1 l[j].2.2.2.2.2.2.2.1 l[j].2.2.2.2.2.2.2.2.1 l[j].2.2.2.2.2.2.2.2.2.1 l[j].2.2.2.2.2.2.2.2.2.2 := rfl
      dsimp only
      rw [hokd]
      cases okS l[j].1 l[j].2.1 l[j].2.2.1 l[j].2.2.2.1 l[j].2.2.2.2.1 l[j].2.2.2.2.2.1 l[j].2.2.2.2.2.2.1 l[j].2.2.2.2.2.2.2.1 l[j].2.2.2.2.2.2.2.2.1 l[j].2.2.2.2.2.2.2.2.2.1 l[j].2.2.2.2.2.2.2.2.2.2 with
      | false => rfl
      | true =>
        refine (cf rfl).trans ?_
        show _ = F6_l0 (n + 4) l m ((j + 1 : Nat) : Int) (stJ out l[j])
        by_cases hne : out = []
        · subst hne
          refine (cf (by simp)).trans ?_
          refine (bs hcp).trans ?_
          refine (ct (hj1 _)).trans ?_
          rfl
        · obtain ⟨p, hp1, hp2, hp3⟩ := last_at out hne
          have hpos : 0 < out.length := List.length_pos_iff.2 hne
          obtain ⟨⟨p9, p10⟩, hpw⟩ := ho p (List.mem_of_getLast? hp1)
          have d2 : decide ((0 : Int) ≤ ((out.length : Nat) : Int) - 1) = true := decide_eq_true (by omega)
          have d3 : decide (((out.length : Nat) : Int) - 1 < ((out.length : Nat) : Int)) = true := decide_eq_true (by omega)
          have d4 : decide (((out.length : Nat) : Int) > 0) = true := decide_eq_true (by omega)
          have hjv := (join_eq n p.1 p.2.1 p.2.2.1 p.2.2.2.1 p.2.2.2.2.1 p.2.2.2.2.2.1 p.2.2.2.2.2.2.1 p.2.2.2.2.2.2.2.1 p.2.2.2.2.2.2.2.2.1 p.2.2.2.2.2.2.2.2.2.1 p.2.2.2.2.2.2.2.2.2.2 l[j].1 l[j].2.1 l[j].2.2.1 l[j].2.2.2.1 l[j].2.2.2.2.1 l[j].2.2.2.2.2.1 l[j].2.2.2.2.2.2.1 l[j].2.2.2.2.2.2.2.1 l[j].2.2.2.2.2.2.2.2.1 l[j].2.2.2.2.2.2.2.2.2.1 l[j].2.2.2.2.2.2.2.2.2.2 hpw p9 p10 g9 g10 (by omega) (by omega)).trans (join_val (n + 4) p.1 p.2.1 p.2.2.1 p.2.2.2.1 p.2.2.2.2.1 p.2.2.2.2.2.1 p.2.2.2.2.2.2.1 p.2.2.2.2.2.2.2.1 p.2.2.2.2.2.2.2.2.1 p.2.2.2.2.2.2.2.2.2.1 p.2.2.2.2.2.2.2.2.2.2 l[j].1 l[j].2.1 l[j].2.2.1 l[j].2.2.2.1 l[j].2.2.2.2.1 l[j].2.2.2.2.2.1 l[j].2.2.2.2.2.2.1 l[j].2.2.2.2.2.2.2.1 l[j].2.2.2.2.2.2.2.2.1 l[j].2.2.2.2.2.2.2.2.2.1 l[j].2.2.2.2.2.2.2.2.2.2 p9 p10 g9 g10 (by omega) (by omega))
          rw [hp2]
          refine (ct d4).trans ?_
          refine (ct d2).trans ?_
          refine (ct d3).trans ?_
          refine (bs hjv).trans ?_
          have hst : stJ out l[j] = (match jn p l[j] with | some x => out.dropLast ++ [x] | none => out ++ [l[j]]) := by unfold stJ; rw [hp1]
          rw [hst]
          unfold jn
          cases hf : (joinV p.1 p.2.1 p.2.2.1 p.2.2.2.1 p.2.2.2.2.1 p.2.2.2.2.2.1 p.2.2.2.2.2.2.1 p.2.2.2.2.2.2.2.1 p.2.2.2.2.2.2.2.2.1 p.2.2.2.2.2.2.2.2.2.1 p.2.2.2.2.2.2.2.2.2.2 l[j].1 l[j].2.1 l[j].2.2.1 l[j].2.2.2.1 l[j].2.2.2.2.1 l[j].2.2.2.2.2.1 l[j].2.2.2.2.2.2.1 l[j].2.2.2.2.2.2.2.1 l[j].2.2.2.2.2.2.2.2.1 l[j].2.2.2.2.2.2.2.2.2.1 l[j].2.2.2.2.2.2.2.2.2.2).2.2.2.2.2.2.2.2.2.2.2 with
          | true =>
            obtain ⟨e, _⟩ := joinV_true hf
            refine (ct rfl).trans ?_
            refine (ct d2).trans ?_
            refine (ct d3).trans ?_
            rw [e, hp3]
            refine (bs rfl).trans ?_
            rfl
          | false =>
            refine (cf rfl).trans ?_
            refine (bs hcp).trans ?_
            refine (ct (hj1 _)).trans ?_
            rfl)
    (fun out j h ⟨hlen, ho⟩ s' hs' => by
      cases hok : okD l[j] with
      | false => rw [hok] at hs'; cases hs'
      | true =>
        rw [hok] at hs'
        simp only [cond_true, Sum.inl.injEq] at hs'
        subst hs'
        obtain ⟨h1, h2⟩ := stJ_short (n := 1048576) (by decide) (by decide) (fun x hx => (ho x hx).1) (hget j h)
        refine ⟨by omega, fun x hx => ⟨h1 x hx, ?_⟩⟩
        unfold stJ at hx
        cases hl : out.getLast? with
        | none =>
          rw [hl] at hx
          obtain rfl := List.mem_singleton.1 hx
          exact hw _ (List.getElem_mem h)
        | some p =>
          rw [hl] at hx
          have hp : p ∈ out := List.mem_of_getLast? hl
          cases hj : jn p l[j] with
          | none =>
            simp only [hj] at hx
            rcases List.mem_append.1 hx with hx | hx
            · exact (ho x hx).2
            · obtain rfl := List.mem_singleton.1 hx
              exact hw _ (List.getElem_mem h)
          | some y =>
            simp only [hj] at hx
            rcases List.mem_append.1 hx with hx | hx
            · exact (ho x (List.dropLast_subset _ hx)).2
            · obtain rfl := List.mem_singleton.1 hx
              unfold jn at hj
              cases hf : (joinV p.1 p.2.1 p.2.2.1 p.2.2.2.1 p.2.2.2.2.1 p.2.2.2.2.2.1 p.2.2.2.2.2.2.1 p.2.2.2.2.2.2.2.1 p.2.2.2.2.2.2.2.2.1 p.2.2.2.2.2.2.2.2.2.1 p.2.2.2.2.2.2.2.2.2.2 l[j].1 l[j].2.1 l[j].2.2.1 l[j].2.2.2.1 l[j].2.2.2.2.1 l[j].2.2.2.2.2.1 l[j].2.2.2.2.2.2.1 l[j].2.2.2.2.2.2.2.1 l[j].2.2.2.2.2.2.2.2.1 l[j].2.2.2.2.2.2.2.2.2.1 l[j].2.2.2.2.2.2.2.2.2.2).2.2.2.2.2.2.2.2.2.2.2 with
              | false => rw [hf] at hj; cases hj
              | true =>
                rw [hf] at hj
                simp only [cond_true, Option.some.injEq] at hj
                subst hj
                exact (ho p hp).2)
    (fun m out _ => by
      simp only [F6_l0, F6_l0_T]
      rw [decide_eq_false (by omega : ¬ ((l.length : Nat) : Int) < (l.length : Nat)), cond_false, F25_eq]; rfl) (n + 4) [] 0 (Nat.zero_le _) (by omega) ⟨by simp, by simp⟩
  rw [scan_cond, List.drop_zero] at this
  simp only [F6, F6_T]
  exact this

/-! ### the law -/
def wL (s : den seg) : Int := (s.2.2.2.2.2.2.2.2.2.1.length : Int) + (s.2.2.2.2.2.2.2.2.2.2.length : Int)
theorem wL_pos (s : den seg) : 0 ≤ wL s := by unfold wL; omega
theorem szS_l (k : Nat) (l : sgL) (a1 : Int) (hw : ∀ s ∈ l, shortS maxLen s) (hl : l.length ≤ 1048576) : ∀ (n : Nat) (x : Int) (j : Nat), j ≤ l.length → l.length - j < n → 0 ≤ x → x ≤ 1048576 →
    ∃ r, F14_l0 k l a1 n x (j : Int) = some r ∧ (r < 0 ∨ (0 ≤ r ∧ sumS wL (l.drop j) + r = x))
  | 0, x, j, _, h, _, _ => by omega
  | n + 1, x, j, hj, h, h0, h1 => by
    rw [F14_l0]
    unfold F14_l0_T
    rcases Nat.lt_or_ge j l.length with hlt | hge
    · obtain ⟨g9, g10⟩ := hw l[j] (List.getElem_mem hlt)
      have d1 : decide ((j : Int) < ((l.length : Nat) : Int)) = true := decide_eq_true (by omega)
      have d0 : decide ((0 : Int) ≤ ((j : Nat) : Int)) = true := decide_eq_true (by omega)
      have z := F40_eq k l[j].1 l[j].2.1 l[j].2.2.1 l[j].2.2.2.1 l[j].2.2.2.2.1 l[j].2.2.2.2.2.1 l[j].2.2.2.2.2.2.1 l[j].2.2.2.2.2.2.2.1 l[j].2.2.2.2.2.2.2.2.1 l[j].2.2.2.2.2.2.2.2.2.1 l[j].2.2.2.2.2.2.2.2.2.2 x g9 g10 ⟨h0, h1⟩
      rw [atI_get l j hlt, up1 j (by omega), d1, d0, z, List.drop_eq_getElem_cons hlt]
      simp only [cond_true, Option.bind_some, sumS]
      have hwl : wL l[j] = (l[j].2.2.2.2.2.2.2.2.2.1.length : Int) + (l[j].2.2.2.2.2.2.2.2.2.2.length : Int) := rfl
      by_cases hc : (l[j].2.2.2.2.2.2.2.2.2.1.length : Int) + (l[j].2.2.2.2.2.2.2.2.2.2.length : Int) ≤ x
      · rw [if_pos hc, decide_eq_false (by omega), cond_false]
        obtain ⟨r, e1, e2⟩ := szS_l k l a1 hw hl n (x - (l[j].2.2.2.2.2.2.2.2.2.1.length : Int) - (l[j].2.2.2.2.2.2.2.2.2.2.length : Int)) (j + 1) hlt (by omega) (by omega) (by omega)
        refine ⟨r, e1, ?_⟩
        rcases e2 with e2 | ⟨e2, e3⟩
        · exact .inl e2
        · exact .inr ⟨e2, by omega⟩
      · rw [if_neg hc]
        exact ⟨-1, rfl, .inl (by decide)⟩
    · have : j = l.length := by omega
      subst this
      rw [decide_eq_false (by omega : ¬ ((l.length : Nat) : Int) < (l.length : Nat)), cond_false, List.drop_length]
      exact ⟨x, rfl, .inr ⟨h0, by simp [sumS]⟩⟩
theorem szS_eq (k : Nat) (l : sgL) (hl : l.length ≤ maxLen) (hw : ∀ s ∈ l, shortS maxLen s) (hk : l.length < k ∨ 1048576 < l.length) :
    ∃ r, F14 k l 1048576 = some r ∧ (r < 0 ∨ (0 ≤ r ∧ l.length ≤ 1048576 ∧ sumS wL l ≤ 1048576)) := by
  simp only [F14, F14_T]
  rw [ml] at hl
  rw [i64_in _ (by omega)]
  by_cases hc : l.length ≤ 1048576
  · rw [decide_eq_false (by omega), cond_false]
    obtain ⟨r, e1, e2⟩ := szS_l k l 1048576 hw hc k (1048576 - (l.length : Int)) 0 (Nat.zero_le _) (by omega) (by omega) (by omega)
    refine ⟨r, e1, ?_⟩
    rcases e2 with e2 | ⟨e2, e3⟩
    · exact .inl e2
    · rw [List.drop_zero] at e3
      exact .inr ⟨e2, hc, by omega⟩
  · rw [decide_eq_true (by omega), cond_true]
    exact ⟨-1, rfl, .inl (by decide)⟩
theorem sumS_mem {α : Type} {s : α → Int} (hs : ∀ a, 0 ≤ s a) : ∀ {l : List α} {a : α}, a ∈ l → s a ≤ sumS s l
  | b :: l, a, h => by
    simp only [sumS]
    rcases List.mem_cons.1 h with rfl | h
    · have := sumS_nonneg hs l; omega
    · have := sumS_mem hs h; have := hs b; omega
theorem sumS_wS : ∀ l : sgL, sumS wS l ≤ 9 * (l.length : Int) + 2 * sumS wL l
  | [] => by simp [sumS]
  | a :: l => by
    have := sumS_wS l
    simp only [sumS, List.length_cons, wS, wL] at this ⊢
    omega
theorem F15_eq (k : Nat) (l : sgL) (hl : l.length ≤ 1048576) (hs : ∀ s ∈ l, shortS 1048576 s) (hk : 1048576 < k) : F15 k l = some l := by
  have := copyLoop l id (fun n j m => F15_l0 k l n j m) id
    (fun n j m h hm => by
      obtain ⟨g9, g10⟩ := hs l[j] (List.getElem_mem h)
      simp only [F15_l0, F15_l0_T]
      rw [atI_get l j h, up1 j (by omega), F41_eq k l[j].1 l[j].2.1 l[j].2.2.1 l[j].2.2.2.1 l[j].2.2.2.2.1 l[j].2.2.2.2.2.1 l[j].2.2.2.2.2.2.1 l[j].2.2.2.2.2.2.2.1 l[j].2.2.2.2.2.2.2.2.1 l[j].2.2.2.2.2.2.2.2.2.1 l[j].2.2.2.2.2.2.2.2.2.2 g9 g10 (by omega) (by omega)]
      simp only [Option.bind_some]
      rw [decide_eq_true (by omega : ((j : Nat) : Int) < (l.length : Nat)), decide_eq_true (by omega : (0 : Int) ≤ (j : Nat)), decide_eq_true (by omega : ((j : Nat) : Int) < (m.length : Nat))]
      rfl)
    (fun n m hm => by simp [F15_l0, F15_l0_T]) k 0 (List.replicate l.length (dflt seg)) (Nat.zero_le _) (by omega) (by simp) (by simp)
  simp only [List.map_id] at this
  simp only [F15, F15_T]
  rw [decide_eq_true (by omega : (0 : Int) ≤ ((l.length : Nat) : Int)), decide_eq_true (by omega : ((l.length : Nat) : Int) * (96 : Nat) ≤ 140737488355328)]
  simp only [decide_true, Bool.and_self, cond_true]
  exact this
theorem sumJ : ∀ (l out : sgL), sumS wL (l.foldl stJ out) ≤ sumS wL out + sumS wL l := by
  have app : ∀ (a b : sgL), sumS wL (a ++ b) = sumS wL a + sumS wL b := by
    intro a b
    induction a with
    | nil => simp [sumS]
    | cons x a ih => simp only [List.cons_append, sumS, ih]; omega
  have one : ∀ (x : den seg), sumS wL [x] = wL x := fun x => by simp [sumS]
  have step : ∀ (out : sgL) (s : den seg), sumS wL (stJ out s) ≤ sumS wL out + wL s := by
    intro out s
    unfold stJ
    cases hl : out.getLast? with
    | none =>
      have := sumS_nonneg wL_pos out
      simp only [one]
      omega
    | some p =>
      have hne : out ≠ [] := by intro e; subst e; simp at hl
      obtain ⟨d, q, rfl⟩ := snoc_of hne
      obtain rfl : q = p := by simpa using hl
      simp only
      cases hj : jn q s with
      | none => simp only [app, one]; omega
      | some x =>
        unfold jn at hj
        cases hf : (joinV q.1 q.2.1 q.2.2.1 q.2.2.2.1 q.2.2.2.2.1 q.2.2.2.2.2.1 q.2.2.2.2.2.2.1 q.2.2.2.2.2.2.2.1 q.2.2.2.2.2.2.2.2.1 q.2.2.2.2.2.2.2.2.2.1 q.2.2.2.2.2.2.2.2.2.2 s.1 s.2.1 s.2.2.1 s.2.2.2.1 s.2.2.2.2.1 s.2.2.2.2.2.1 s.2.2.2.2.2.2.1 s.2.2.2.2.2.2.2.1 s.2.2.2.2.2.2.2.2.1 s.2.2.2.2.2.2.2.2.2.1 s.2.2.2.2.2.2.2.2.2.2).2.2.2.2.2.2.2.2.2.2.2 with
        | false => rw [hf] at hj; cases hj
        | true =>
          rw [hf] at hj
          simp only [cond_true, Option.some.injEq] at hj
          subst hj
          simp only [List.dropLast_concat, app, one, wL, List.length_append]
          omega
  intro l
  induction l with
  | nil => intro out; simp [sumS]
  | cons a l ih =>
    intro out
    have h1 := ih (stJ out a)
    have h2 := step out a
    simp only [List.foldl_cons, sumS]
    omega
theorem sum_joinAll (l : sgL) : sumS wL (joinAll l) ≤ sumS wL l := by
  unfold joinAll
  cases l.all okD with
  | false => exact sumS_nonneg wL_pos l
  | true => have := sumJ l []; simpa [sumS] using this
theorem XJ_true (l : sgL) (hl : l.length ≤ maxLen) (hw : ∀ s ∈ l, shortS maxLen s) (hi : ∀ s ∈ l, -9223372036854775808 ≤ s.2.2.1 ∧ s.2.2.1 ≤ 9223372036854775807) : F4 (4000000 + 4) l = some true := by
  generalize hn : 4000000 = n
  unfold F4 F4_T
  obtain ⟨r, z1, z2⟩ := szS_eq (n + 4) l hl hw (by omega)
  refine (bs z1).trans ?_
  by_cases hr : r < 0
  · exact (ct (decide_eq_true hr)).trans rfl
  refine (cf (decide_eq_false hr)).trans ?_
  obtain ⟨_, hlen, hsum⟩ : 0 ≤ r ∧ l.length ≤ 1048576 ∧ sumS wL l ≤ 1048576 := z2.resolve_left hr
  have hsh : ∀ s ∈ l, shortS 1048576 s := fun s hs => by
    have h1 := sumS_mem wL_pos hs
    have h2 : wL s = (s.2.2.2.2.2.2.2.2.2.1.length : Int) + (s.2.2.2.2.2.2.2.2.2.2.length : Int) := rfl
    exact ⟨by omega, by omega⟩
  have cp := F15_eq (n + 4) l hlen hsh (by omega)
  have sj := F8_eq (n + 4) l hlen hsh (by omega) (by omega)
  have ij := F6_eq n l hlen hi hsh (by omega) (by omega)
  obtain ⟨gsh, glen⟩ := joinAll_short (n := 1048576) (by decide) (by decide) l hsh
  have gsum := sum_joinAll l
  generalize joinAll l = g at *
  have sw1 := sumS_wS l
  have sw2 := sumS_wS g
  have nn1 := sumS_nonneg wS_pos l
  have nn2 := sumS_nonneg wS_pos g
  have eqg := F16_self (n + 4) g 1048576 (by omega) (by omega) gsh (by omega) (by omega)
  have eql := F16_self (n + 4) l 1048576 (by omega) (by omega) hsh (by omega) (by omega)
  have mk := F17_eq (n + 4) l 1 1048576 (by omega) (by omega) hsh (by omega) (by omega) (by omega)
  have mg := F17_eq (n + 4) g 1 1048576 (by omega) (by omega) gsh (by omega) (by omega) (by omega)
  have hg := F18_eq (n + 4) g 1 1048576 (by omega) (by omega) gsh (by omega) (by omega) (by omega)
  have p1 : decide (1 + sumS wS l < 0) = false := decide_eq_false (by omega)
  have p2 : decide (1 + sumS wS g < 0) = false := decide_eq_false (by omega)
  have p4 : (1 + sumS wS g != 1 + sumS wS g) = false := by simp
  refine (bs cp).trans ?_
  refine (bs sj).trans ?_
  refine (bs cp).trans ?_
  refine (bs ij).trans ?_
  refine (bs eqg).trans ?_
  refine (cf rfl).trans ?_
  refine (bs cp).trans ?_
  refine (bs eql).trans ?_
  refine (cf rfl).trans ?_
  refine (bs mk).trans ?_
  refine (cf p1).trans ?_
  refine (bs eqg).trans ?_
  refine (cf rfl).trans ?_
  refine (bs mg).trans ?_
  refine (bs hg).trans ?_
  refine (cf p2).trans ?_
  refine (cf p4).trans ?_
  refine (bs cp).trans ?_
  refine (bs ij).trans ?_
  refine (bs eqg).trans ?_
  refine (cf rfl).trans ?_
  refine (bs hg).trans ?_
  refine (cf p2).trans ?_
  exact (cf p4).trans rfl
theorem i64_wf {x : Int} (h : (Lit.int .i64 x).wf = true) : -9223372036854775808 ≤ x ∧ x ≤ 9223372036854775807 := by
  simp [Lit.wf, IntKind.min, IntKind.max, IntKind.signed, IntKind.bits] at h
  omega
theorem pureXJ (l : sgL) (hw : Wf (.sl seg) l) :
    ∃ k, (∀ l : sgL, Contract Try.prog 4 [.one (.l (.s .ro seg l))] ⟨F4 k l, fun r => (.one (.v (.bool r)), [])⟩) ∧ F4 k l = some true := by
  refine ⟨_, fun l => F4_con _ l, XJ_true l hw.1 (fun s hs => ?_) (fun s hs => ?_)⟩
  · obtain ⟨_, _, _, _, _, _, _, _, _, w9, w10⟩ := hw.2 s hs
    exact ⟨w9.1, w10.1⟩
  · obtain ⟨_, _, w2, _⟩ := hw.2 s hs
    exact i64_wf w2
end Go.Proofs.Ytamlndedbnkbmaa.Gn
end
