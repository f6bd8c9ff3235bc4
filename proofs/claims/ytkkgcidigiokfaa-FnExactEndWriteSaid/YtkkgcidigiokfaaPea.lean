/-
  What the functions that the law reaches answer. (A part of the proofs of this seat.)
-/
import Derived.Test.YtkkgcidigiokfaaGeb
import Derived.Test.YtkkgcidigiokfaaRc

section
set_option linter.unusedVariables false
set_option linter.unusedSimpArgs false
/-
  What rows of ranges and bytes answer: the plain functions, in plain words.
-/
namespace Go.Proofs.Ytkkgcidigiokfaa.Gn
open Go.Rf Go.IntWalk

def inB (a b c : Int) : Bool := decide (b ≤ a) && decide (a ≤ c)
theorem F77_eq (k : Nat) (a b c : Int) : F77 k a b c = some (inB a b c) := by
  unfold F77 inB
  have : decide (a ≥ b) = decide (b ≤ a) := rfl
  rw [this]
  cases decide (b ≤ a) <;> rfl
theorem F106_eq (k : Nat) (a b c : Int) : F106 k a b c = some (inB a b c) := F77_eq k a b c
theorem F97_eq (k : Nat) (a : Int) : F97 k a = some (inB a 1 255) := by unfold F97; rw [F106_eq]; rfl
theorem F96_eq (k : Nat) (a : Int) : F96 k a = some (inB a 0 65535) := by unfold F96; rw [F106_eq]; rfl
abbrev u8L : Type := List (den (.int .u8))
abbrev rgL : Type := List (den rng)
theorem ml : maxLen = 9223372036854775807 := rfl
theorem F57_eq (k : Nat) (l : rgL) (x : Int) (hl : l.length ≤ maxLen) (hx : 0 ≤ x ∧ x ≤ 1048576) : F57 k l x = some (if (l.length : Int) ≤ x then x - (l.length : Int) else -1) := by
  simp only [F57, F57_T]
  rw [ml] at hl
  rw [i64_in _ (by omega)]
  by_cases h : (l.length : Int) ≤ x
  · rw [decide_eq_false (by omega), if_pos h]; rfl
  · rw [decide_eq_true (by omega), if_neg h]; rfl
theorem F58_eq (k : Nat) (l : u8L) (x : Int) (hl : l.length ≤ maxLen) (hx : 0 ≤ x ∧ x ≤ 1048576) : F58 k l x = some (if (l.length : Int) ≤ x then x - (l.length : Int) else -1) := by
  simp only [F58, F58_T]
  rw [ml] at hl
  rw [i64_in _ (by omega)]
  by_cases h : (l.length : Int) ≤ x
  · rw [decide_eq_false (by omega), if_pos h]; rfl
  · rw [decide_eq_true (by omega), if_neg h]; rfl
theorem F64_eq (k : Nat) (l : rgL) (hl : l.length ≤ 1048576) (hk : l.length < k) : F64 k l = some l := by
  have := copyLoop l id (fun n j m => F64_l0 k l n j m) id
    (fun n j m h hm => by
      simp only [F64_l0, F64_l0_T]
      rw [atI_get l j h, up1 j (by omega), F133]
      simp only [Option.bind_some]
      rw [decide_eq_true (by omega : ((j : Nat) : Int) < (l.length : Nat)), decide_eq_true (by omega : (0 : Int) ≤ (j : Nat)), decide_eq_true (by omega : ((j : Nat) : Int) < (m.length : Nat))]
      rfl)
    (fun n m hm => by simp [F64_l0, F64_l0_T]) k 0 (List.replicate l.length (dflt rng)) (Nat.zero_le _) (by omega) (by simp) (by simp)
  simp only [List.map_id] at this
  simp only [F64, F64_T]
  rw [decide_eq_true (by omega : (0 : Int) ≤ ((l.length : Nat) : Int)), decide_eq_true (by omega : ((l.length : Nat) : Int) * (16 : Nat) ≤ 140737488355328)]
  simp only [decide_true, Bool.and_self, cond_true]
  exact this
theorem F40_eq (k : Nat) (l : u8L) (hl : l.length ≤ 1048576) (hk : l.length < k) : F40 k l = some l := by
  have := copyLoop l id (fun n j m => F40_l0 k l n j m) id
    (fun n j m h hm => by
      simp only [F40_l0, F40_l0_T]
      rw [atI_get l j h, up1 j (by omega)]
      rw [decide_eq_true (by omega : ((j : Nat) : Int) < (l.length : Nat)), decide_eq_true (by omega : (0 : Int) ≤ (j : Nat)), decide_eq_true (by omega : ((j : Nat) : Int) < (m.length : Nat))]
      rfl)
    (fun n m hm => by simp [F40_l0, F40_l0_T]) k 0 (List.replicate l.length (dflt (.int .u8))) (Nat.zero_le _) (by omega) (by simp) (by simp)
  simp only [List.map_id] at this
  simp only [F40, F40_T]
  rw [decide_eq_true (by omega : (0 : Int) ≤ ((l.length : Nat) : Int)), decide_eq_true (by omega : ((l.length : Nat) : Int) * (1 : Nat) ≤ 140737488355328)]
  simp only [decide_true, Bool.and_self, cond_true]
  exact this
theorem some_cond {α : Type} (c : Bool) (a b : α) : cond c (some a) (some b) = some (cond c a b) := by cases c <;> rfl
theorem F67_eq (k : Nat) (a : Int) (h : -9223372036854775808 ≤ a ∧ a ≤ 9223372036854775807) : F67 k a = F61 k a := by
  unfold F67 F61
  have hm := Int.tmod_lt_of_pos a (show (0 : Int) < 65536 by omega)
  have hm2 : -65536 < a.tmod 65536 := by
    have := Int.tmod_lt_of_pos (-a) (show (0 : Int) < 65536 by omega)
    rw [Int.neg_tmod] at this
    omega
  rw [i64_in _ (by omega)]
  by_cases hn : a.tmod 65536 < 0
  · rw [decide_eq_true hn, cond_true]
    congr 1
    rw [Int.tmod_eq_of_lt (by omega) (by omega)]
  · rw [decide_eq_false hn, cond_false]
    congr 1
    have : (a.tmod 65536 + 65536).tmod 65536 = a.tmod 65536 := by
      rw [Int.tmod_eq_emod_of_nonneg (by omega), Int.add_emod_right, Int.emod_eq_of_lt (by omega) hm]
    exact this

def seqOf (a : Int) : Int := cond (decide (a.tmod 65536 < 0)) (IntKind.i64.wrap (a.tmod 65536 + 65536)) (a.tmod 65536)
theorem F61_val (k : Nat) (a : Int) : F61 k a = some (seqOf a) := by unfold F61 seqOf; rw [some_cond]
theorem F67_val (k : Nat) (a : Int) (h : -9223372036854775808 ≤ a ∧ a ≤ 9223372036854775807) : F67 k a = some (seqOf a) := by rw [F67_eq k a h, F61_val]
theorem F167_eq (k : Nat) (l : rgL) : F167 k l = some l := by
  simp only [F167, F167_T]
  rw [decide_eq_true (by omega : (0 : Int) ≤ ((l.length : Nat) : Int))]
  simp
theorem F168_eq (k : Nat) (l : u8L) : F168 k l = some l := by
  simp only [F168, F168_T]
  rw [decide_eq_true (by omega : (0 : Int) ≤ ((l.length : Nat) : Int))]
  simp
theorem F136_eq (k : Nat) (l : rgL) (h : l.length ≤ 4194304) : F136 k l = some l := by
  simp only [F136, F136_T, F167_eq, List.nil_append, List.length_nil, Nat.zero_add]
  rw [decide_eq_true (by omega : l.length * 16 ≤ 140737488355328)]
  cases l with
  | nil => rfl
  | cons a r => rw [show ((((a :: r).length : Nat) : Int) == 0) = false by rw [beq_eq_false_iff_ne]; simp only [List.length_cons]; omega]; rfl
theorem F137_eq (k : Nat) (l : u8L) (h : l.length ≤ 4194304) : F137 k l = some l := by
  simp only [F137, F137_T, F168_eq, List.nil_append, List.length_nil, Nat.zero_add]
  rw [decide_eq_true (by omega : l.length * 1 ≤ 140737488355328)]
  cases l with
  | nil => rfl
  | cons a r => rw [show ((((a :: r).length : Nat) : Int) == 0) = false by rw [beq_eq_false_iff_ne]; simp only [List.length_cons]; omega]; rfl
theorem eqD_rng (a b : den rng) : eqD rng a b = decide (a = b) := by
  obtain ⟨a1, a2⟩ := a
  obtain ⟨b1, b2⟩ := b
  simp only [eqD]
  have e : ((a1, a2) = (b1, b2)) ↔ (a1 = b1 ∧ a2 = b2) := Prod.mk.injEq .. ▸ Iff.rfl
  by_cases h1 : a1 = b1 <;> by_cases h2 : a2 = b2 <;> simp [h1, h2, e]
theorem F66_l (k : Nat) (a b : rgL) (hlen : a.length = b.length) (h9 : a.length ≤ 4194304) (k9 : a.length < k) : F66_l0 k a b k 0 = some (decide (a = b)) :=
  eqLoop a b (fun n j => F66_l0 k a b n j) hlen
    (fun n j h h' => by
      simp only [F66_l0, F66_l0_T]
      rw [atI_get a j h, atI_get b j h', eqD_rng, up1 j (by omega)]
      rw [decide_eq_true (by omega : ((j : Nat) : Int) < (a.length : Nat)), decide_eq_true (by omega : ((j : Nat) : Int) < (b.length : Nat)), decide_eq_true (by omega : (0 : Int) ≤ (j : Nat))]
      by_cases hc : a[j] = b[j]
      · rw [decide_eq_true hc, if_pos hc]; rfl
      · rw [decide_eq_false hc, if_neg hc]; rfl)
    (fun n => by
      simp only [F66_l0, F66_l0_T]
      rw [decide_eq_false (by omega : ¬ ((a.length : Nat) : Int) < (a.length : Nat))]; rfl) k 0 (Nat.zero_le _) (by omega)
theorem F66_eq (k : Nat) (a b : rgL) (h9 : a.length ≤ 4194304) (k9 : a.length < k) : F66 k a b = some (decide (a = b)) := by
  simp only [F66, F66_T]
  by_cases hlen : a.length = b.length
  · rw [F66_l k a b hlen h9 k9, hlen]; simp
  · rw [show (((a.length : Nat) : Int) != ((b.length : Nat) : Int)) = true by rw [bne_iff_ne]; omega, cond_true, decide_eq_false (fun h => hlen (by rw [h]))]
theorem F70_self (k : Nat) (a : rgL) (h9 : a.length ≤ 4194304) (k9 : a.length < k) : F70 k a a = some true := by
  have := foldLoop a (fun n (_ : Unit) j => F70_l0 k a a n j) (fun s _ => s) (fun _ => true)
    (fun n s j h => by
      simp only [F70_l0, F70_l0_T]
      rw [atI_get a j h, up1 j (by omega), F139]
      simp [h])
    (fun n s => by simp [F70_l0, F70_l0_T]) k () 0 (Nat.zero_le _) (by omega)
  simp only [F70, F70_T, bne_self_eq_false, cond_false]
  exact this
theorem F42_self (k : Nat) (a : u8L) (h9 : a.length ≤ 4194304) (k9 : a.length < k) : F42 k a a = some true := by
  have := foldLoop a (fun n (_ : Unit) j => F42_l0 k a a n j) (fun s _ => s) (fun _ => true)
    (fun n s j h => by
      simp only [F42_l0, F42_l0_T]
      rw [atI_get a j h, up1 j (by omega)]
      simp [h])
    (fun n s => by simp [F42_l0, F42_l0_T]) k () 0 (Nat.zero_le _) (by omega)
  simp only [F42, F42_T, bne_self_eq_false, cond_false]
  exact this
def gR (x : Int) (a : den rng) : den rng := (x, x + 1)
def gB (x : Int) (a : den (.int .u8)) : den (.int .u8) := IntKind.u8.wrap x
theorem F71_eq (k : Nat) (l : rgL) (x : Int) (hk : l.length < k) (h0 : 0 ≤ x) (hB : x + 2 * (l.length : Int) ≤ 1099511627776) :
    F71 k l x = some (x + 2 * (l.length : Int), marks gR (fun _ => 2) x l) := by
  have := markLoop 1099511627776 l.length (fun n y j m => F71_l0 k l x n y j m) gR (fun _ => 2) (fun x m => (x, m)) (fun _ => by decide)
    (fun n y j m h hN h0 hB => by
      simp only [F71_l0, F71_l0_T, List.length_set, Int.toNat_natCast]
      rw [up1 j (by omega), i64_in (y + 1) (by omega), i64_in (y + 1 + 1) (by omega), List.set_set]
      rw [decide_eq_true (by omega : ((j : Nat) : Int) < (m.length : Nat)), decide_eq_true (by omega : (0 : Int) ≤ (j : Nat))]
      rw [atI_get (m.set j (y, (atI m (j : Int)).2)) j (by simpa using h)]
      simp only [List.getElem_set_self, cond_true]
      rw [Int.add_assoc]; rfl)
    (fun n x m => by simp [F71_l0, F71_l0_T]) k x [] l (by simp) hk h0 (by rw [sumS_const]; exact hB)
  rw [sumS_const] at this
  simp only [F71, F71_T]
  exact this
theorem F43_eq (k : Nat) (l : u8L) (x : Int) (hk : l.length < k) (h0 : 0 ≤ x) (hB : x + (l.length : Int) ≤ 1099511627776) :
    F43 k l x = some (x + (l.length : Int), marks gB (fun _ => 1) x l) := by
  have := markLoop 1099511627776 l.length (fun n y j m => F43_l0 k l x n y j m) gB (fun _ => 1) (fun x m => (x, m)) (fun _ => by decide)
    (fun n y j m h hN h0 hB => by
      simp only [F43_l0, F43_l0_T, Int.toNat_natCast]
      rw [up1 j (by omega), i64_in (y + 1) (by omega)]
      rw [decide_eq_true (by omega : ((j : Nat) : Int) < (m.length : Nat)), decide_eq_true (by omega : (0 : Int) ≤ (j : Nat))]
      rfl)
    (fun n x m => by simp [F43_l0, F43_l0_T]) k x [] l (by simp) hk h0 (by rw [sumS_const]; omega)
  rw [sumS_const, Int.one_mul] at this
  simp only [F43, F43_T]
  exact this
theorem F72_eq (k : Nat) (l : rgL) (x : Int) (hk : l.length < k) (h0 : 0 ≤ x) (hB : x + 2 * (l.length : Int) ≤ 1099511627776) :
    F72 k (marks gR (fun _ => 2) x l) x = some (x + 2 * (l.length : Int)) := by
  have hlen := marks_len gR (fun _ => 2) x l
  have hsum := sumS_marks (g := gR) (s := fun _ => 2) (fun _ _ => rfl) x l
  rw [sumS_const 2 l] at hsum
  have hh := Helds_marks (t := fun x a => a = ((x, x + 1) : Int × Int)) (g := gR) (s := fun _ => 2) (fun _ _ => rfl) (fun _ _ => rfl) x l
  have h9 := sumS_const 2 (marks gR (fun _ => 2) x l)
  generalize marks gR (fun _ => 2) x l = m at hlen hsum hh h9
  have := heldLoop 1099511627776 m (fun n y j => F72_l0 k m x n y j) (fun x a => a = ((x, x + 1) : Int × Int)) (fun _ => 2) (fun x => x) (fun _ => by decide)
    (fun n y j h ht h0 hB => by
      simp only [F72_l0, F72_l0_T]
      rw [up1 j (by omega), i64_in (y + 1) (by omega), i64_in (y + 1 + 1) (by omega), atI_get m j h, ht]
      rw [decide_eq_true (by omega : ((j : Nat) : Int) < (m.length : Nat)), decide_eq_true (by omega : (0 : Int) ≤ (j : Nat))]
      simp only [bne_self_eq_false, cond_true, cond_false]
      rw [Int.add_assoc]; rfl)
    (fun n y => by simp [F72_l0, F72_l0_T]) k x 0 (Nat.zero_le _) (by omega) h0 (by rw [List.drop_zero, hsum]; exact hB) (by rw [List.drop_zero]; exact hh)
  rw [List.drop_zero, hsum] at this
  simp only [F72, F72_T]
  exact this
theorem F73_eq (k : Nat) (l : u8L) (x : Int) (hk : l.length < k) (h0 : 0 ≤ x) (hB : x + (l.length : Int) ≤ 1099511627776) :
    F73 k (marks gB (fun _ => 1) x l) x = some (x + (l.length : Int)) := by
  have hlen := marks_len gB (fun _ => 1) x l
  have hsum := sumS_marks (g := gB) (s := fun _ => 1) (fun _ _ => rfl) x l
  rw [sumS_const 1 l, Int.one_mul] at hsum
  have hh := Helds_marks (t := fun x a => a = IntKind.u8.wrap x) (g := gB) (s := fun _ => 1) (fun _ _ => rfl) (fun _ _ => rfl) x l
  have h9 := sumS_const 1 (marks gB (fun _ => 1) x l)
  generalize marks gB (fun _ => 1) x l = m at hlen hsum hh h9
  have := heldLoop 1099511627776 m (fun n y j => F73_l0 k m x n y j) (fun x a => a = IntKind.u8.wrap x) (fun _ => 1) (fun x => x) (fun _ => by decide)
    (fun n y j h ht h0 hB => by
      simp only [F73_l0, F73_l0_T]
      rw [up1 j (by omega), i64_in (y + 1) (by omega), atI_get m j h, ht]
      rw [decide_eq_true (by omega : ((j : Nat) : Int) < (m.length : Nat)), decide_eq_true (by omega : (0 : Int) ≤ (j : Nat))]
      simp only [bne_self_eq_false, cond_true, cond_false])
    (fun n y => by simp [F73_l0, F73_l0_T]) k x 0 (Nat.zero_le _) (by omega) h0 (by rw [List.drop_zero, hsum]; exact hB) (by rw [List.drop_zero]; exact hh)
  rw [List.drop_zero, hsum] at this
  simp only [F73, F73_T]
  exact this
theorem bs {α β : Type} {o : Option α} {f : α → Option β} {x : α} (h : o = some x) : o.bind f = f x := by rw [h]; rfl
theorem cf {α : Type} {c : Bool} {a b : α} (h : c = false) : cond c a b = b := by rw [h]; rfl
theorem ct {α : Type} {c : Bool} {a b : α} (h : c = true) : cond c a b = a := by rw [h]; rfl
theorem F16_self (k : Nat) (a0 a1 a2 a3 a4 : Int) (a5 a6 a7 a8 : Bool) (a9 : List (den rng)) (a10 : List (den (.int .u8))) (h9 : a9.length ≤ 4194304) (h10 : a10.length ≤ 4194304) (k9 : a9.length < k) (k10 : a10.length < k) : F16 k a0 a1 a2 a3 a4 a5 a6 a7 a8 a9 a10 a0 a1 a2 a3 a4 a5 a6 a7 a8 a9 a10 = some true := by
  simp only [F16, F16_T, F70_self k a9 h9 k9, F42_self k a10 h10 k10, bne_self_eq_false, beq_self_eq_true, Bool.not_true, cond_false, Option.bind_some]
/-! ### rows of segments -/
abbrev sgL : Type := List (den seg)
/-- the weight of a segment: how many marks it bears -/
def wS (s : den seg) : Int := 9 + 2 * (s.2.2.2.2.2.2.2.2.2.1.length : Int) + (s.2.2.2.2.2.2.2.2.2.2.length : Int)
theorem wS_pos (s : den seg) : 0 ≤ wS s := by unfold wS; omega
/-- a segment marked -/
def gS (y : Int) (s : den seg) : den seg :=
  (y, y + 1, y + 2, y + 3, y + 4, (y + 5).tmod 3 == 0, (y + 6).tmod 3 == 0, (y + 7).tmod 3 == 0, (y + 8).tmod 3 == 0, marks gR (fun _ => 2) (y + 9) s.2.2.2.2.2.2.2.2.2.1,
    marks gB (fun _ => 1) (y + 9 + 2 * (s.2.2.2.2.2.2.2.2.2.1.length : Int)) s.2.2.2.2.2.2.2.2.2.2)
theorem wS_gS (y : Int) (s : den seg) : wS (gS y s) = wS s := by simp [wS, gS, marks_len]
/-- its rows are no longer than this -/
def shortS (n : Nat) (s : den seg) : Prop := s.2.2.2.2.2.2.2.2.2.1.length ≤ n ∧ s.2.2.2.2.2.2.2.2.2.2.length ≤ n
theorem markS_step (k : Nat) (a0 : sgL) (a1 : Int) (n : Nat) (y : Int) (j : Nat) (m : sgL) (N : Nat) (h : j < m.length) (hm : m.length ≤ 4194304) (h0 : 0 ≤ y) (hB : y + wS m[j] ≤ 1099511627776) (hs : shortS N m[j]) (hN : N < k) :
    F26_l0 k a0 a1 (n + 1) y (j : Int) m = F26_l0 k a0 a1 n (y + wS m[j]) ((j + 1 : Nat) : Int) (m.set j (gS y m[j])) := by
  rw [F26_l0]
  unfold F26_l0_T
  rw [atI_get m j h, up1 j (by omega)]
  generalize m[j] = s at *
  obtain ⟨s0, s1, s2, s3, s4, s5, s6, s7, s8, s9, s10⟩ := s
  obtain ⟨hs9, hs10⟩ := hs
  simp only [wS] at hB
  simp only at hs9 hs10
  have d1 : decide ((j : Int) < ((m.length : Nat) : Int)) = true := decide_eq_true (by omega)
  have d0 : decide ((0 : Int) ≤ ((j : Nat) : Int)) = true := decide_eq_true (by omega)
  have w0 : IntKind.i64.wrap (y + 1) = y + 1 := by rw [i64_in _ (by omega)]
  have w1 : IntKind.i64.wrap (y + 1 + 1) = y + 2 := by rw [i64_in _ (by omega)]; omega
  have w2 : IntKind.i64.wrap (y + 2 + 1) = y + 3 := by rw [i64_in _ (by omega)]; omega
  have w3 : IntKind.i64.wrap (y + 3 + 1) = y + 4 := by rw [i64_in _ (by omega)]; omega
  have w4 : IntKind.i64.wrap (y + 4 + 1) = y + 5 := by rw [i64_in _ (by omega)]; omega
  have w5 : IntKind.i64.wrap (y + 5 + 1) = y + 6 := by rw [i64_in _ (by omega)]; omega
  have w6 : IntKind.i64.wrap (y + 6 + 1) = y + 7 := by rw [i64_in _ (by omega)]; omega
  have w7 : IntKind.i64.wrap (y + 7 + 1) = y + 8 := by rw [i64_in _ (by omega)]; omega
  have w8 : IntKind.i64.wrap (y + 8 + 1) = y + 9 := by rw [i64_in _ (by omega)]; omega
  rw [w0, w1, w2, w3, w4, w5, w6, w7, w8]
  refine (ct d1).trans ?_
  refine (ct d0).trans ?_
  refine (ct d1).trans ?_
  refine (bs (x := m.set j (y, s1, s2, s3, s4, s5, s6, s7, s8, s9, s10)) (rfl)).trans ?_
  refine (ct d0).trans ?_
  refine (ct (by rw [List.length_set]; exact d1)).trans ?_
  refine (bs (x := m.set j (y, y + 1, s2, s3, s4, s5, s6, s7, s8, s9, s10)) (by rw [atI_set h]; show some _ = some _; rw [Int.toNat_natCast, List.set_set])).trans ?_
  refine (ct d0).trans ?_
  refine (ct (by rw [List.length_set]; exact d1)).trans ?_
  refine (bs (x := m.set j (y, y + 1, y + 2, s3, s4, s5, s6, s7, s8, s9, s10)) (by rw [atI_set h]; show some _ = some _; rw [Int.toNat_natCast, List.set_set])).trans ?_
  refine (ct d0).trans ?_
  refine (ct (by rw [List.length_set]; exact d1)).trans ?_
  refine (bs (x := m.set j (y, y + 1, y + 2, y + 3, s4, s5, s6, s7, s8, s9, s10)) (by rw [atI_set h]; show some _ = some _; rw [Int.toNat_natCast, List.set_set])).trans ?_
  refine (ct d0).trans ?_
  refine (ct (by rw [List.length_set]; exact d1)).trans ?_
  refine (bs (x := m.set j (y, y + 1, y + 2, y + 3, y + 4, s5, s6, s7, s8, s9, s10)) (by rw [atI_set h]; show some _ = some _; rw [Int.toNat_natCast, List.set_set])).trans ?_
  refine (ct d0).trans ?_
  refine (ct (by rw [List.length_set]; exact d1)).trans ?_
  refine (bs (x := m.set j (y, y + 1, y + 2, y + 3, y + 4, ((y + 5).tmod 3 == 0), s6, s7, s8, s9, s10)) (by rw [atI_set h]; show some _ = some _; rw [Int.toNat_natCast, List.set_set])).trans ?_
  refine (ct d0).trans ?_
  refine (ct (by rw [List.length_set]; exact d1)).trans ?_
  refine (bs (x := m.set j (y, y + 1, y + 2, y + 3, y + 4, ((y + 5).tmod 3 == 0), ((y + 6).tmod 3 == 0), s7, s8, s9, s10)) (by rw [atI_set h]; show some _ = some _; rw [Int.toNat_natCast, List.set_set])).trans ?_
  refine (ct d0).trans ?_
  refine (ct (by rw [List.length_set]; exact d1)).trans ?_
  refine (bs (x := m.set j (y, y + 1, y + 2, y + 3, y + 4, ((y + 5).tmod 3 == 0), ((y + 6).tmod 3 == 0), ((y + 7).tmod 3 == 0), s8, s9, s10)) (by rw [atI_set h]; show some _ = some _; rw [Int.toNat_natCast, List.set_set])).trans ?_
  refine (ct d0).trans ?_
  refine (ct (by rw [List.length_set]; exact d1)).trans ?_
  refine (bs (x := m.set j (y, y + 1, y + 2, y + 3, y + 4, ((y + 5).tmod 3 == 0), ((y + 6).tmod 3 == 0), ((y + 7).tmod 3 == 0), ((y + 8).tmod 3 == 0), s9, s10)) (by rw [atI_set h]; show some _ = some _; rw [Int.toNat_natCast, List.set_set])).trans ?_
  refine (ct d0).trans ?_
  refine (ct (by rw [List.length_set]; exact d1)).trans ?_
  refine (bs (by rw [atI_set h]; exact F71_eq k s9 (y + 9) (by omega) (by omega) (by omega))).trans ?_
  refine (ct d0).trans ?_
  refine (ct (by rw [List.length_set, List.length_set]; exact d1)).trans ?_
  have h8 : j < (m.set j (y, y + 1, y + 2, y + 3, y + 4, ((y + 5).tmod 3 == 0), ((y + 6).tmod 3 == 0), ((y + 7).tmod 3 == 0), ((y + 8).tmod 3 == 0), s9, s10)).length := by rw [List.length_set]; exact h
  refine (bs (by rw [Int.toNat_natCast, atI_set h8, atI_set h]; exact F43_eq k s10 (y + 9 + 2 * (s9.length : Int)) (by omega) (by omega) (by omega))).trans ?_
  rw [Int.toNat_natCast, atI_set h8, atI_set h, List.set_set, List.set_set]
  show F26_l0 k a0 a1 n _ _ _ = _
  unfold wS gS
  have e : y + (9 + 2 * (s9.length : Int) + (s10.length : Int)) = y + 9 + 2 * (s9.length : Int) + (s10.length : Int) := by omega
  simp only [e]
theorem F26_eq (k : Nat) (l : sgL) (x : Int) (N : Nat) (hl : l.length ≤ 4194304) (hk : l.length < k) (hs : ∀ s ∈ l, shortS N s) (hN : N < k) (h0 : 0 ≤ x) (hB : x + sumS wS l ≤ 1099511627776) :
    F26 k l x = some (x + sumS wS l, marks gS wS x l) := by
  simp only [F26, F26_T]
  have main : ∀ (n : Nat) (y : Int) (d r : sgL), d.length + r.length = l.length → r.length < n → (∀ s ∈ r, shortS N s) → 0 ≤ y → y + sumS wS r ≤ 1099511627776 →
      F26_l0 k l x n y (d.length : Nat) (d ++ r) = some (y + sumS wS r, d ++ marks gS wS y r) := by
    intro n
    induction n with
    | zero => intro y d r _ h; omega
    | succ n ih =>
      intro y d r hN2 hn hr h0 hB
      cases r with
      | nil => simp [F26_l0, F26_l0_T, sumS, marks]
      | cons a r =>
        simp only [sumS] at hB
        have ha := wS_pos a
        have hr2 := sumS_nonneg wS_pos r
        have hj : d.length < (d ++ a :: r).length := by simp
        have hget : (d ++ a :: r)[d.length] = a := by simp
        rw [markS_step k l x n y d.length (d ++ a :: r) N hj (by simp at hN2 ⊢; omega) h0 (by rw [hget]; omega) (by rw [hget]; exact hr a (by simp)) hN, hget]
        have := ih (y + wS a) (d ++ [gS y a]) r (by simp at hN2 ⊢; omega) (by simp at hn; omega) (fun s hs => hr s (by simp [hs])) (by omega) (by omega)
        simp only [List.length_append, List.length_singleton, List.append_assoc, List.singleton_append] at this
        rw [show (d ++ a :: r).set d.length (gS y a) = d ++ gS y a :: r by simp, this]
        simp [sumS, marks, Int.add_assoc]
  have := main k x [] l (by simp) hk hs h0 hB
  simpa using this
/-- a segment that bears marks -/
def bears (N : Nat) (y : Int) (s : den seg) : Prop := ∃ b : den seg, s = gS y b ∧ shortS N b
theorem heldS_step (k : Nat) (l : sgL) (x : Int) (n : Nat) (y : Int) (j : Nat) (N : Nat) (h : j < l.length) (hl : l.length ≤ 4194304) (ht : bears N y l[j]) (h0 : 0 ≤ y) (hB : y + wS l[j] ≤ 1099511627776) (hN : N < k) :
    F28_l0 k l x (n + 1) y (j : Int) = F28_l0 k l x n (y + wS l[j]) ((j + 1 : Nat) : Int) := by
  rw [F28_l0]
  unfold F28_l0_T
  rw [atI_get l j h, up1 j (by omega)]
  obtain ⟨b, hb, hs9, hs10⟩ := ht
  generalize l[j] = s at *
  subst hb
  obtain ⟨s0, s1, s2, s3, s4, s5, s6, s7, s8, s9, s10⟩ := b
  rw [wS_gS] at hB ⊢
  simp only [wS] at hB
  simp only at hs9 hs10
  have d1 : decide ((j : Int) < ((l.length : Nat) : Int)) = true := decide_eq_true (by omega)
  have d0 : decide ((0 : Int) ≤ ((j : Nat) : Int)) = true := decide_eq_true (by omega)
  have w0 : IntKind.i64.wrap (y + 1) = y + 1 := by rw [i64_in _ (by omega)]
  have w1 : IntKind.i64.wrap (y + 1 + 1) = y + 2 := by rw [i64_in _ (by omega)]; omega
  have w2 : IntKind.i64.wrap (y + 2 + 1) = y + 3 := by rw [i64_in _ (by omega)]; omega
  have w3 : IntKind.i64.wrap (y + 3 + 1) = y + 4 := by rw [i64_in _ (by omega)]; omega
  have w4 : IntKind.i64.wrap (y + 4 + 1) = y + 5 := by rw [i64_in _ (by omega)]; omega
  have w5 : IntKind.i64.wrap (y + 5 + 1) = y + 6 := by rw [i64_in _ (by omega)]; omega
  have w6 : IntKind.i64.wrap (y + 6 + 1) = y + 7 := by rw [i64_in _ (by omega)]; omega
  have w7 : IntKind.i64.wrap (y + 7 + 1) = y + 8 := by rw [i64_in _ (by omega)]; omega
  have w8 : IntKind.i64.wrap (y + 8 + 1) = y + 9 := by rw [i64_in _ (by omega)]; omega
  rw [w0, w1, w2, w3, w4, w5, w6, w7, w8]
  refine (ct d1).trans ?_
  refine (ct d0).trans ?_
  refine (ct d1).trans ?_
  refine (cf (by unfold gS; simp)).trans ?_
  refine (ct d0).trans ?_
  refine (ct d1).trans ?_
  refine (cf (by unfold gS; simp)).trans ?_
  refine (ct d0).trans ?_
  refine (ct d1).trans ?_
  refine (cf (by unfold gS; simp)).trans ?_
  refine (ct d0).trans ?_
  refine (ct d1).trans ?_
  refine (cf (by unfold gS; simp)).trans ?_
  refine (ct d0).trans ?_
  refine (ct d1).trans ?_
  refine (cf (by unfold gS; simp)).trans ?_
  refine (ct d0).trans ?_
  refine (ct d1).trans ?_
  refine (cf (by unfold gS; simp)).trans ?_
  refine (ct d0).trans ?_
  refine (ct d1).trans ?_
  refine (cf (by unfold gS; simp)).trans ?_
  refine (ct d0).trans ?_
  refine (ct d1).trans ?_
  refine (cf (by unfold gS; simp)).trans ?_
  refine (ct d0).trans ?_
  refine (ct d1).trans ?_
  refine (cf (by unfold gS; simp)).trans ?_
  refine (ct d0).trans ?_
  refine (ct d1).trans ?_
  refine (bs (F72_eq k s9 (y + 9) (by omega) (by omega) (by omega))).trans ?_
  refine (cf (decide_eq_false (by omega))).trans ?_
  refine (ct d0).trans ?_
  refine (ct d1).trans ?_
  refine (bs (F73_eq k s10 (y + 9 + 2 * (s9.length : Int)) (by omega) (by omega) (by omega))).trans ?_
  refine (cf (decide_eq_false (by omega))).trans ?_
  show F28_l0 k l x n _ _ = _
  unfold wS
  have e : y + (9 + 2 * (s9.length : Int) + (s10.length : Int)) = y + 9 + 2 * (s9.length : Int) + (s10.length : Int) := by omega
  simp only [e]
theorem F28_eq (k : Nat) (l : sgL) (x : Int) (N : Nat) (hl : l.length ≤ 4194304) (hk : l.length < k) (hs : ∀ s ∈ l, shortS N s) (hN : N < k) (h0 : 0 ≤ x) (hB : x + sumS wS l ≤ 1099511627776) :
    F28 k (marks gS wS x l) x = some (x + sumS wS l) := by
  have hlen := marks_len gS wS x l
  have hsum := sumS_marks (g := gS) (s := wS) wS_gS x l
  have hh := Helds_mem (t := bears N) (g := gS) (s := wS) wS_gS x l (fun y a ha => ⟨a, rfl, hs a ha⟩)
  generalize marks gS wS x l = m at hlen hsum hh
  have := heldLoop 1099511627776 m (fun n y j => F28_l0 k m x n y j) (bears N) wS (fun x => x) wS_pos
    (fun n y j h ht h0 hB => heldS_step k m x n y j N h (by omega) ht h0 hB hN)
    (fun n y => by simp [F28_l0, F28_l0_T]) k x 0 (Nat.zero_le _) (by omega) h0 (by rw [List.drop_zero, hsum]; exact hB) (by rw [List.drop_zero]; exact hh)
  rw [List.drop_zero, hsum] at this
  simp only [F28, F28_T]
  exact this
theorem F24_self (k : Nat) (l : sgL) (N : Nat) (hl : l.length ≤ 4194304) (hk : l.length < k) (hs : ∀ s ∈ l, shortS N s) (hN : N < k) (hN2 : N ≤ 4194304) : F24 k l l = some true := by
  have := foldLoop l (fun n (_ : Unit) j => F24_l0 k l l n j) (fun s _ => s) (fun _ => true)
    (fun n s j h => by
      obtain ⟨h9, h10⟩ := hs l[j] (List.getElem_mem h)
      simp only [F24_l0, F24_l0_T]
      rw [atI_get l j h, up1 j (by omega), F16_self k _ _ _ _ _ _ _ _ _ _ _ (by omega) (by omega) (by omega) (by omega)]
      simp [h])
    (fun n s => by simp [F24_l0, F24_l0_T]) k () 0 (Nat.zero_le _) (by omega)
  simp only [F24, F24_T, bne_self_eq_false, cond_false]
  exact this

/-! ### mouths, ears, clocks, ends: are they such -/
abbrev erL : Type := List (den erl)
def chkQ {α : Type} (A : α → Bool) (B : α → α → Bool) : α → List α → Bool
  | _, [] => true
  | p, a :: r => A a && B p a && chkQ A B a r
def chkP {α : Type} (A : α → Bool) (B : α → α → Bool) : List α → Bool
  | [] => true
  | a :: r => A a && chkQ A B a r
theorem scanPrev {α : Type} (l : List α) (A : α → Bool) (B : α → α → Bool) (L : Nat → Int → Option Bool)
    (h0 : ∀ (n : Nat) (h : 0 < l.length), L (n + 1) ((0 : Nat) : Int) = cond (A l[0]) (L n ((1 : Nat) : Int)) (some false))
    (hs : ∀ (n j : Nat) (h : j + 1 < l.length), L (n + 1) ((j + 1 : Nat) : Int) = cond (A l[j + 1] && B l[j] l[j + 1]) (L n ((j + 1 + 1 : Nat) : Int)) (some false))
    (he : ∀ n : Nat, L (n + 1) (l.length : Nat) = some true) (n : Nat) (hn : l.length < n) : L n ((0 : Nat) : Int) = some (chkP A B l) := by
  have main : ∀ (n j : Nat) (h : j < l.length), l.length - (j + 1) < n → L n ((j + 1 : Nat) : Int) = some (chkQ A B l[j] (l.drop (j + 1))) := by
    intro n
    induction n with
    | zero => intro j _ h; omega
    | succ n ih =>
      intro j h hn
      rcases Nat.lt_or_ge (j + 1) l.length with hlt | hge
      · rw [hs n j hlt, List.drop_eq_getElem_cons hlt, chkQ]
        cases A l[j + 1] && B l[j] l[j + 1] with
        | true => rw [cond_true, ih (j + 1) hlt (by omega), Bool.true_and]
        | false => rfl
      · have e : j + 1 = l.length := by omega
        rw [e, he, List.drop_length]; rfl
  cases n with
  | zero => omega
  | succ n =>
    rcases Nat.eq_zero_or_pos l.length with hz | hp
    · have := he n
      rw [hz] at this
      rw [this, List.length_eq_zero_iff.1 hz]; rfl
    · rw [h0 n hp]
      have hm := main n 0 hp (by omega)
      have e : l = l[0] :: l.drop 1 := by rw [← List.drop_eq_getElem_cons hp, List.drop_zero]
      rw [show some (chkP A B l) = some (chkP A B (l[0] :: l.drop 1)) by rw [← e], chkP]
      cases A l[0] with
      | true => rw [cond_true, hm, Bool.true_and]
      | false => rfl
theorem dle (a b : Int) : decide (a ≤ b) = !decide (b < a) := by by_cases h : a ≤ b <;> simp [h] <;> omega
theorem dge (a b : Int) : decide (a ≥ b) = !decide (a < b) := dle b a
theorem dgt (a b : Int) : decide (a > b) = decide (b < a) := rfl
theorem wpred (j : Nat) (h : j < 2 ^ 62) : IntKind.i64.wrap (((j + 1 : Nat) : Int) - 1) = (j : Int) := by rw [i64_in _ (by omega)]; omega
def clkB (c0 c1 c2 : Int) : Bool := inB c0 0 80000 && inB c1 0 80000 && inB c2 4 200
theorem F143_eq (k : Nat) (a b c : Int) : F143 k a b c = some (clkB a b c) := by
  simp only [F143, F143_T, F77_eq, Option.bind_some, clkB]
  cases inB a 0 80000 <;> cases inB b 0 80000 <;> rfl
theorem F109_eq (k : Nat) (a b c : Int) : F109 k a b c = some (clkB a b c) := by
  simp only [F109, F109_T, F106_eq, Option.bind_some, clkB]
  cases inB a 0 80000 <;> cases inB b 0 80000 <;> rfl

/-! ### mouths -/
def mA (m0 m2 : Int) (r : Int × Int) : Bool := decide (m0 < r.1) && (decide (r.1 < r.2) && decide (r.2 ≤ m0 + m2))
def mB (p r : Int × Int) : Bool := decide (p.2 < r.1)
theorem chkQ_R (m0 m2 : Int) : ∀ (l : List (Int × Int)) (p : Int × Int), m0 < p.2 → chkQ (mA m0 m2) mB p l = chkR (m0 + m2) p.2 l
  | [], _, _ => rfl
  | (x, y) :: l, (u, v), h => by
    have h : m0 < v := h
    have ih := fun hh => chkQ_R m0 m2 l (x, y) hh
    simp only [chkQ, chkR, mA, mB] at ih ⊢
    by_cases hc : v < x ∧ x < y ∧ y ≤ m0 + m2
    · rw [ih (by omega), decide_eq_true (by omega : m0 < x), decide_eq_true hc.1, decide_eq_true hc.2.1, decide_eq_true hc.2.2]; rfl
    · by_cases c1 : v < x <;> by_cases c2 : x < y <;> by_cases c3 : y ≤ m0 + m2 <;> simp [c1, c2, c3] <;> exact absurd ⟨c1, c2, c3⟩ hc
theorem chkP_R (m0 m2 : Int) (l : List (Int × Int)) : chkP (mA m0 m2) mB l = chkR (m0 + m2) m0 l := by
  cases l with
  | nil => rfl
  | cons r l =>
    obtain ⟨x, y⟩ := r
    have h := chkQ_R m0 m2 l (x, y)
    simp only [chkP, chkR, mA] at h ⊢
    by_cases hc : m0 < x ∧ x < y
    · rw [h (by omega), decide_eq_true hc.1, decide_eq_true hc.2]; simp
    · by_cases c1 : m0 < x <;> by_cases c2 : x < y <;> simp [c1, c2] <;> exact absurd ⟨c1, c2⟩ hc
def mokB (m0 : Int) (m1 : List (den (.int .u8))) (m2 m3 : Int) (m4 : List (den rng)) : Bool :=
  inB m0 0 1000000 && (decide (((m1.length : Nat) : Int) ≤ 32) && (inB m2 0 ((m1.length : Nat) : Int) && (inB m3 0 255 && (decide (((m4.length : Nat) : Int) ≤ 2) && chkR (m0 + m2) m0 m4))))
theorem inB_iff {a b c : Int} : inB a b c = true ↔ b ≤ a ∧ a ≤ c := by unfold inB; simp
theorem F141_l (k : Nat) (m0 : Int) (m1 : List (den (.int .u8))) (m2 m3 : Int) (m4 : List (den rng)) (h0 : 0 ≤ m0 ∧ m0 ≤ 1000000) (h2 : 0 ≤ m2 ∧ m2 ≤ 32) (hl : m4.length ≤ 2) (hk : 4 ≤ k) : F141_l0 k m0 m1 m2 m3 m4 k 0 = some (chkR (m0 + m2) m0 m4) := by
  rw [← chkP_R]
  have w : IntKind.i64.wrap (m0 + m2) = m0 + m2 := i64_in _ (by omega)
  refine scanPrev m4 (mA m0 m2) mB (fun n j => F141_l0 k m0 m1 m2 m3 m4 n j) (fun n h => ?_) (fun n j h => ?_) (fun n => ?_) k (by omega)
  · rw [F141_l0]
    unfold F141_l0_T mA
    rw [atI_get m4 0 h, up1 0 (by omega), w]
    rw [decide_eq_true (by omega : ((0 : Nat) : Int) < (m4.length : Nat)), decide_eq_true (by omega : (0 : Int) ≤ ((0 : Nat) : Int)), decide_eq_false (by omega : ¬ ((0 : Nat) : Int) > 0),
      dle m4[0].1 m0, dle m4[0].2 m4[0].1, dgt m4[0].2, dle m4[0].2 (m0 + m2)]
    cases decide (m0 < m4[0].1) <;> cases decide (m4[0].1 < m4[0].2) <;> cases decide (m0 + m2 < m4[0].2) <;> rfl
  · rw [F141_l0]
    unfold F141_l0_T mA mB
    rw [atI_get m4 (j + 1) h, up1 (j + 1) (by omega), wpred j (by omega), w, atI_get m4 j (by omega)]
    rw [decide_eq_true (by omega : ((j + 1 : Nat) : Int) < (m4.length : Nat)), decide_eq_true (by omega : (0 : Int) ≤ ((j + 1 : Nat) : Int)), decide_eq_true (by omega : ((j + 1 : Nat) : Int) > 0),
      decide_eq_true (by omega : (0 : Int) ≤ ((j : Nat) : Int)), decide_eq_true (by omega : ((j : Nat) : Int) < (m4.length : Nat)), dle m4[j + 1].1 m0, dle m4[j + 1].2 m4[j + 1].1, dgt m4[j + 1].2, dge m4[j].2, dle m4[j + 1].2 (m0 + m2)]
    cases decide (m0 < m4[j + 1].1) <;> cases decide (m4[j + 1].1 < m4[j + 1].2) <;> cases decide (m0 + m2 < m4[j + 1].2) <;> cases decide (m4[j].2 < m4[j + 1].1) <;> rfl
  · rw [F141_l0]
    unfold F141_l0_T
    rw [decide_eq_false (by omega : ¬ ((m4.length : Nat) : Int) < (m4.length : Nat))]; rfl
theorem F141_eq (k : Nat) (m0 : Int) (m1 : List (den (.int .u8))) (m2 m3 : Int) (m4 : List (den rng)) (hk : 4 ≤ k) : F141 k m0 m1 m2 m3 m4 = some (mokB m0 m1 m2 m3 m4) := by
  simp only [F141, F141_T, F77_eq, Option.bind_some, mokB, dgt]
  cases h0 : inB m0 0 1000000 with
  | false => rfl
  | true =>
    by_cases h1 : ((m1.length : Nat) : Int) ≤ 32
    · rw [decide_eq_false (by omega : ¬ 32 < ((m1.length : Nat) : Int)), decide_eq_true h1]
      cases h2 : inB m2 0 ((m1.length : Nat) : Int) with
      | false => rfl
      | true =>
        cases h3 : inB m3 0 255 with
        | false => rfl
        | true =>
          by_cases h4 : ((m4.length : Nat) : Int) ≤ 2
          · rw [decide_eq_false (by omega : ¬ 2 < ((m4.length : Nat) : Int)), decide_eq_true h4]
            rw [inB_iff] at h0 h2
            rw [F141_l k m0 m1 m2 m3 m4 h0 (by omega) (by omega) hk]; rfl
          · rw [decide_eq_true (by omega : 2 < ((m4.length : Nat) : Int)), decide_eq_false h4]; rfl
    · rw [decide_eq_true (by omega : 32 < ((m1.length : Nat) : Int)), decide_eq_false h1]; rfl
theorem F157_eq (k : Nat) (l : rgL) (a b : Int) (hl : l.length ≤ 1048576) (hk : l.length < k) : F157 k l a b = some (l.foldl (roF 2 b) ([], a)).1 := by
  have := foldLoopI l (fun j (s : List (Int × Int) × Int) => s.1.length ≤ j) (fun n s j => F157_l0 k l a b n s.2 j s.1) (roF 2 b) (fun s => s.1)
    (fun n s j h hp => by
      rw [F157_l0]
      unfold F157_l0_T roF
      rw [atI_get l j h, up1 j (by omega)]
      rw [decide_eq_true (by omega : ((j : Nat) : Int) < (l.length : Nat)), decide_eq_true (by omega : (0 : Int) ≤ (j : Nat)), dgt, dgt]
      have hsz : decide ((s.1.length + [l[j]].length) * 16 ≤ 140737488355328) = true := decide_eq_true (by simp; omega)
      rw [hsz]
      by_cases c1 : s.2 < l[j].1
      · by_cases c2 : l[j].1 < l[j].2
        · by_cases c3 : l[j].2 ≤ b
          · by_cases c4 : ((s.1.length : Nat) : Int) < 2
            · rw [if_pos ⟨⟨c1, c2, c3⟩, by omega⟩, decide_eq_true c1, decide_eq_true c2, decide_eq_true c3, decide_eq_true c4]; rfl
            · rw [if_neg (fun h => c4 (by omega)), decide_eq_true c1, decide_eq_true c2, decide_eq_true c3, decide_eq_false c4]; rfl
          · rw [if_neg (fun h => c3 h.1.2.2), decide_eq_true c1, decide_eq_true c2, decide_eq_false c3]; rfl
        · rw [if_neg (fun h => c2 h.1.2.1), decide_eq_true c1, decide_eq_false c2]; rfl
      · rw [if_neg (fun h => c1 h.1.1), decide_eq_false c1]; rfl)
    (fun s j h hp => by unfold roF; split <;> (try simp only [List.length_append, List.length_singleton]) <;> omega)
    (fun n s hp => by
      rw [F157_l0]
      unfold F157_l0_T
      rw [decide_eq_false (by omega : ¬ ((l.length : Nat) : Int) < (l.length : Nat)), cond_false, F136_eq k s.1 (by omega)]; rfl) k ([], a) 0 (Nat.zero_le _) (by omega) (by simp)
  exact this
theorem F107_eq (k : Nat) (m0 : Int) (m1 : List (den (.int .u8))) (m2 m3 : Int) (m4 : List (den rng)) (hk : 4 ≤ k) : F107 k m0 m1 m2 m3 m4 = some (mokB m0 m1 m2 m3 m4) := by
  simp only [F107, F107_T, F106_eq, Option.bind_some, mokB]
  cases h0 : inB m0 0 1000000 with
  | false => rfl
  | true =>
    by_cases h1 : ((m1.length : Nat) : Int) ≤ 32
    · rw [decide_eq_true h1]
      cases h2 : inB m2 0 ((m1.length : Nat) : Int) with
      | false => rfl
      | true =>
        cases inB m3 0 255 with
        | false => rfl
        | true =>
          by_cases h4 : ((m4.length : Nat) : Int) ≤ 2
          · rw [decide_eq_true h4]
            rw [inB_iff] at h0 h2
            have hr := ro_eq 2 (m0 + m2) m4 ([], m0) (by simp; omega)
            rw [i64_in (m0 + m2) (by omega), F157_eq k m4 m0 (m0 + m2) (by omega) (by omega)]
            have hlen := ro_len 2 (m0 + m2) m4 ([], m0)
            simp only [List.nil_append, List.length_nil, Nat.zero_add] at hr hlen
            simp only [cond_true, Option.bind_some]
            rw [F66_eq k _ m4 (by omega) (by omega)]
            simp only [Option.bind_some, Bool.true_and]
            congr 1
            cases hc : chkR (m0 + m2) m0 m4 with
            | true => rw [hc] at hr; exact decide_eq_true (hr.2 rfl)
            | false => rw [hc] at hr; exact decide_eq_false fun h => by cases hr.1 h
          · rw [decide_eq_false h4]; rfl
    · rw [decide_eq_false h1]; rfl

/-! ### ears -/
def eA (e0 e1 n : Int) (x : Int × Int) : Bool := decide (e0 < x.1) && decide (x.1 < e0 + e1 - n)
def eB (p x : Int × Int) : Bool := decide (p.1 < x.1)
def earB (e0 e1 : Int) (e2 : List (den (.int .u8))) (e3 : List (den erl)) : Bool := inB e0 0 1000000 && (inB e1 1 32 && (decide (((e2.length : Nat) : Int) ≤ e1) && chkP (eA e0 e1 ((e2.length : Nat) : Int)) eB e3))
theorem F142_l (k : Nat) (e0 e1 : Int) (e2 : List (den (.int .u8))) (e3 : List (den erl)) (h0 : 0 ≤ e0 ∧ e0 ≤ 1000000) (h1 : 1 ≤ e1 ∧ e1 ≤ 32) (h2 : ((e2.length : Nat) : Int) ≤ e1) (hl : e3.length ≤ 1048576) (hk : e3.length < k) : F142_l0 k e0 e1 e2 e3 k 0 = some (chkP (eA e0 e1 ((e2.length : Nat) : Int)) eB e3) := by
  have w1 : IntKind.i64.wrap (e0 + e1) = e0 + e1 := i64_in _ (by omega)
  have w : IntKind.i64.wrap (e0 + e1 - ((e2.length : Nat) : Int)) = e0 + e1 - ((e2.length : Nat) : Int) := i64_in _ (by omega)
  refine scanPrev e3 (eA e0 e1 ((e2.length : Nat) : Int)) eB (fun n j => F142_l0 k e0 e1 e2 e3 n j) (fun n h => ?_) (fun n j h => ?_) (fun n => ?_) k (by omega)
  · rw [F142_l0]
    unfold F142_l0_T eA
    rw [atI_get e3 0 h, up1 0 (by omega), w1, w]
    rw [decide_eq_true (by omega : ((0 : Nat) : Int) < (e3.length : Nat)), decide_eq_true (by omega : (0 : Int) ≤ ((0 : Nat) : Int)), decide_eq_false (by omega : ¬ ((0 : Nat) : Int) > 0), dle e3[0].1 e0, dge e3[0].1]
    cases decide (e0 < e3[0].1) <;> cases decide (e3[0].1 < e0 + e1 - ((e2.length : Nat) : Int)) <;> rfl
  · rw [F142_l0]
    unfold F142_l0_T eA eB
    rw [atI_get e3 (j + 1) h, up1 (j + 1) (by omega), wpred j (by omega), w1, w, atI_get e3 j (by omega)]
    rw [decide_eq_true (by omega : ((j + 1 : Nat) : Int) < (e3.length : Nat)), decide_eq_true (by omega : (0 : Int) ≤ ((j + 1 : Nat) : Int)), decide_eq_true (by omega : ((j + 1 : Nat) : Int) > 0),
      decide_eq_true (by omega : (0 : Int) ≤ ((j : Nat) : Int)), decide_eq_true (by omega : ((j : Nat) : Int) < (e3.length : Nat)), dle e3[j + 1].1 e0, dge e3[j + 1].1, dge e3[j].1]
    cases decide (e0 < e3[j + 1].1) <;> cases decide (e3[j + 1].1 < e0 + e1 - ((e2.length : Nat) : Int)) <;> cases decide (e3[j].1 < e3[j + 1].1) <;> rfl
  · rw [F142_l0]
    unfold F142_l0_T
    rw [decide_eq_false (by omega : ¬ ((e3.length : Nat) : Int) < (e3.length : Nat))]; rfl
theorem F142_eq (k : Nat) (e0 e1 : Int) (e2 : List (den (.int .u8))) (e3 : List (den erl)) (hl : e3.length ≤ 1048576) (hk : e3.length < k) : F142 k e0 e1 e2 e3 = some (earB e0 e1 e2 e3) := by
  simp only [F142, F142_T, F77_eq, Option.bind_some, earB, dgt]
  cases h0 : inB e0 0 1000000 with
  | false => rfl
  | true =>
    cases h1 : inB e1 1 32 with
    | false => rfl
    | true =>
      rw [inB_iff] at h0 h1
      by_cases h2 : ((e2.length : Nat) : Int) ≤ e1
      · rw [decide_eq_false (by omega : ¬ e1 < ((e2.length : Nat) : Int)), decide_eq_true h2, F142_l k e0 e1 e2 e3 h0 h1 h2 hl hk]; rfl
      · rw [decide_eq_true (by omega : e1 < ((e2.length : Nat) : Int)), decide_eq_false h2]; rfl
theorem F108_l (k : Nat) (e0 e1 : Int) (e2 : List (den (.int .u8))) (e3 : List (den erl)) (h0 : 0 ≤ e0 ∧ e0 ≤ 1000000) (h1 : 1 ≤ e1 ∧ e1 ≤ 32) (h2 : ((e2.length : Nat) : Int) ≤ e1) (hl : e3.length ≤ 1048576) (hk : e3.length < k) : F108_l0 k e0 e1 e2 e3 k 0 = some (chkP (eA e0 e1 ((e2.length : Nat) : Int)) eB e3) := by
  have w0 : IntKind.i64.wrap (e1 - ((e2.length : Nat) : Int)) = e1 - ((e2.length : Nat) : Int) := i64_in _ (by omega)
  have w1 : IntKind.i64.wrap (e0 + (e1 - ((e2.length : Nat) : Int))) = e0 + (e1 - ((e2.length : Nat) : Int)) := i64_in _ (by omega)
  have w2 : IntKind.i64.wrap (e0 + (e1 - ((e2.length : Nat) : Int)) - 1) = e0 + (e1 - ((e2.length : Nat) : Int)) - 1 := i64_in _ (by omega)
  have w3 : IntKind.i64.wrap (e0 + 1) = e0 + 1 := i64_in _ (by omega)
  have hA : ∀ x : Int × Int, inB x.1 (e0 + 1) (e0 + (e1 - ((e2.length : Nat) : Int)) - 1) = eA e0 e1 ((e2.length : Nat) : Int) x := fun x => by
    unfold inB eA
    exact congr (congrArg and (decide_eq_decide.2 (by omega))) (decide_eq_decide.2 (by omega))
  refine scanPrev e3 (eA e0 e1 ((e2.length : Nat) : Int)) eB (fun n j => F108_l0 k e0 e1 e2 e3 n j) (fun n h => ?_) (fun n j h => ?_) (fun n => ?_) k (by omega)
  · rw [F108_l0]
    unfold F108_l0_T F124
    simp only [Option.bind_some, w0, w1, w2, w3, F106_eq]
    rw [atI_get e3 0 h, up1 0 (by omega), hA]
    rw [decide_eq_true (by omega : ((0 : Nat) : Int) < (e3.length : Nat)), decide_eq_true (by omega : (0 : Int) ≤ ((0 : Nat) : Int)), decide_eq_false (by omega : ¬ ((0 : Nat) : Int) > 0)]
    cases eA e0 e1 ((e2.length : Nat) : Int) e3[0] <;> rfl
  · rw [F108_l0]
    unfold F108_l0_T F124
    simp only [Option.bind_some, w0, w1, w2, w3, F106_eq]
    rw [atI_get e3 (j + 1) h, up1 (j + 1) (by omega), wpred j (by omega), hA, atI_get e3 j (by omega)]
    rw [decide_eq_true (by omega : ((j + 1 : Nat) : Int) < (e3.length : Nat)), decide_eq_true (by omega : (0 : Int) ≤ ((j + 1 : Nat) : Int)), decide_eq_true (by omega : ((j + 1 : Nat) : Int) > 0),
      decide_eq_true (by omega : (0 : Int) ≤ ((j : Nat) : Int)), decide_eq_true (by omega : ((j : Nat) : Int) < (e3.length : Nat)), dge e3[j].1]
    unfold eB
    cases eA e0 e1 ((e2.length : Nat) : Int) e3[j + 1] <;> cases decide (e3[j].1 < e3[j + 1].1) <;> rfl
  · rw [F108_l0]
    unfold F108_l0_T
    rw [decide_eq_false (by omega : ¬ ((e3.length : Nat) : Int) < (e3.length : Nat))]; rfl
theorem F108_eq (k : Nat) (e0 e1 : Int) (e2 : List (den (.int .u8))) (e3 : List (den erl)) (h2 : e2.length ≤ 1048576) (hl : e3.length ≤ 1048576) (hk : e3.length < k) : F108 k e0 e1 e2 e3 = some (earB e0 e1 e2 e3) := by
  simp only [F108, F108_T, F106_eq, F124, Option.bind_some, earB]
  cases h0 : inB e0 0 1000000 with
  | false => rfl
  | true =>
    cases h1 : inB e1 1 32 with
    | false => rfl
    | true =>
      rw [inB_iff] at h0 h1
      rw [i64_in (e1 - ((e2.length : Nat) : Int)) (by omega)]
      by_cases h3 : ((e2.length : Nat) : Int) ≤ e1
      · rw [decide_eq_false (by omega : ¬ e1 - ((e2.length : Nat) : Int) < 0), decide_eq_true h3, F108_l k e0 e1 e2 e3 h0 h1 h3 hl hk]; rfl
      · rw [decide_eq_true (by omega : e1 - ((e2.length : Nat) : Int) < 0), decide_eq_false h3]; rfl

/-! ### ends -/
def IsB (o : Option Bool) (P : Prop) : Prop := ∃ b, o = some b ∧ (b = true ↔ P)
theorem IsB.ite {c : Bool} {x y : Option Bool} {P : Prop} (h1 : c = true → IsB x P) (h2 : c = false → IsB y P) : IsB (cond c x y) P := by
  cases c with
  | true => exact h1 rfl
  | false => exact h2 rfl
theorem IsB.ff {P : Prop} (h : ¬P) : IsB (some false) P := ⟨false, rfl, fun e => (by cases e), fun p => absurd p h⟩
theorem IsB.tt {P : Prop} (h : P) : IsB (some true) P := ⟨true, rfl, fun _ => h, fun _ => rfl⟩
theorem IsB.val {b : Bool} {P : Prop} (h : b = true ↔ P) : IsB (some b) P := ⟨b, rfl, h⟩
theorem IsB.mono {o : Option Bool} {P Q : Prop} (h : IsB o P) (e : P ↔ Q) : IsB o Q := by
  obtain ⟨b, h1, h2⟩ := h
  exact ⟨b, h1, h2.trans e⟩
/-- a check that must not hold -/
theorem IsB.not {c : Bool} {y : Option Bool} {P Q : Prop} (h : c = true → ¬P) (h2 : c = false → IsB y P) : IsB (cond c (some false) y) P := IsB.ite (fun e => IsB.ff (h e)) h2
/-- a Boolean that must hold -/
theorem IsB.must {c : Bool} {y : Option Bool} {P Q : Prop} (e : P ↔ (c = true ∧ Q)) (h : c = true → IsB y Q) : IsB (cond (!c) (some false) y) P := by
  cases c with
  | true => exact (h rfl).mono ⟨fun q => e.2 ⟨rfl, q⟩, fun p => (e.1 p).2⟩
  | false => exact IsB.ff fun p => by cases (e.1 p).1
theorem IsB.eq {o o' : Option Bool} {P : Prop} (h : IsB o P) (h' : IsB o' P) : ∃ b, o = some b ∧ o' = some b ∧ (b = true ↔ P) := by
  obtain ⟨b, h1, h2⟩ := h
  obtain ⟨b', h3, h4⟩ := h'
  refine ⟨b, h1, ?_, h2⟩
  rw [h3]
  cases b <;> cases b' <;> simp_all
theorem last_atG {t : Ty} (out : List (den t)) (hne : out ≠ []) : ∃ d p, out = d ++ [p] ∧ atI out ((out.length : Int) - 1) = p ∧ ∀ v : den t, out.set ((out.length : Int) - 1).toNat v = d ++ [v] := by
  obtain ⟨d, p, rfl⟩ := snoc_of hne
  refine ⟨d, p, rfl, ?_, fun v => ?_⟩
  · have : (((d ++ [p]).length : Int) - 1) = ((d.length : Nat) : Int) := by simp
    rw [this, atI_get (d ++ [p]) d.length (by simp)]
    simp
  · have : (((d ++ [p]).length : Int) - 1).toNat = d.length := by simp
    rw [this]
    simp
theorem chkQ_last {A : Int × Int → Bool} : ∀ (l : List (Int × Int)) (p q : Int × Int) (d : List (Int × Int)), p :: l = d ++ [q] → chkQ A eB p l = true → ∀ x ∈ p :: l, x.1 ≤ q.1
  | [], p, q, d, h, _, x, hx => by
    have : d = [] := by
      cases d with
      | nil => rfl
      | cons a d => simp at h
    subst this
    simp at h hx
    subst h hx
    exact Int.le_refl _
  | a :: l, p, q, d, h, hc, x, hx => by
    cases d with
    | nil => simp at h
    | cons b d =>
      simp only [List.cons_append, List.cons.injEq] at h
      simp only [chkQ, Bool.and_eq_true] at hc
      have ih := chkQ_last l a q d h.2 hc.2
      have hb : p.1 < a.1 := by simpa [eB] using hc.1.2
      rcases List.mem_cons.1 hx with rfl | hx
      · have := ih a (by simp); omega
      · exact ih x hx
theorem chkP_last {A : Int × Int → Bool} {l : List (Int × Int)} {q : Int × Int} {d : List (Int × Int)} (h : l = d ++ [q]) (hc : chkP A eB l = true) : ∀ x ∈ l, x.1 ≤ q.1 := by
  cases l with
  | nil => simp at h
  | cons p l =>
    simp only [chkP, Bool.and_eq_true] at hc
    exact chkQ_last l p q d h hc.2
/-- is something of an end to be heard yet -/
def Opn (a0 n7 : Int) (a16 a17 : Bool) : Prop := a0 = 2 ∨ a0 = 3 ∨ (a0 = 4 ∧ (0 < n7 ∨ (a16 = true ∧ a17 = false)))
def P6 (a11 a18 : Int) (a14 : erL) : Prop := a18 = -1 ∨ (inB a18 a11 1000000 = true ∧ ∀ x ∈ (a14 : List (Int × Int)), x.1 < a18)
def EOK (a0 a1 a2 a3 a4 a5 a6 : Int) (a7 : List (den (.int .u8))) (a8 a9 : Int) (a10 : List (den rng)) (a11 a12 : Int) (a13 : List (den (.int .u8))) (a14 : List (den erl)) (a15 a16 a17 : Bool) (a18 a19 a20 a21 a22 a23 : Int) : Prop :=
  inB a0 0 5 = true ∧ inB a1 0 65535 = true ∧ inB a3 0 65535 = true ∧ inB a2 1 255 = true ∧ inB a4 0 255 = true ∧ inB a5 0 65535 = true ∧
    mokB a6 a7 a8 a9 a10 = true ∧ a5 < a6 ∧ earB a11 a12 a13 a14 = true ∧ clkB a21 a22 a23 = true ∧ inB a19 0 1000000 = true ∧ inB a20 0 8 = true ∧
    (a17 = true → a16 = true) ∧ (a16 = true → a15 = true ∧ a8 = (a7.length : Int) ∧ 4 ≤ a0) ∧ (a0 < 4 → a8 = 0 ∧ a6 = a5 + 1 ∧ a18 = -1) ∧
    (0 < a4 ↔ 2 ≤ a0) ∧ (Opn a0 (a7.length : Int) a16 a17 ∨ (a19 = 0 ∧ (a20 = 0 ∨ a0 = 5))) ∧ P6 a11 a18 a14
theorem mok_iff {m0 : Int} {m1 : List (den (.int .u8))} {m2 m3 : Int} {m4 : List (den rng)} : mokB m0 m1 m2 m3 m4 = true ↔ (0 ≤ m0 ∧ m0 ≤ 1000000) ∧ (m1.length : Int) ≤ 32 ∧ (0 ≤ m2 ∧ m2 ≤ (m1.length : Int)) ∧ (0 ≤ m3 ∧ m3 ≤ 255) ∧ (m4.length : Int) ≤ 2 ∧ chkR (m0 + m2) m0 m4 = true := by
  unfold mokB
  simp only [Bool.and_eq_true, inB_iff, decide_eq_true_eq]
theorem ear_iff {e0 e1 : Int} {e2 : List (den (.int .u8))} {e3 : List (den erl)} : earB e0 e1 e2 e3 = true ↔ (0 ≤ e0 ∧ e0 ≤ 1000000) ∧ (1 ≤ e1 ∧ e1 ≤ 32) ∧ (e2.length : Int) ≤ e1 ∧ chkP (eA e0 e1 ((e2.length : Nat) : Int)) eB e3 = true := by
  unfold earB
  simp only [Bool.and_eq_true, inB_iff, decide_eq_true_eq]

theorem F144_is (k : Nat) (a0 a1 a2 a3 a4 a5 a6 : Int) (a7 : List (den (.int .u8))) (a8 a9 : Int) (a10 : List (den rng)) (a11 a12 : Int) (a13 : List (den (.int .u8))) (a14 : List (den erl)) (a15 a16 a17 : Bool) (a18 a19 a20 a21 a22 a23 : Int) (h : 0 ≤ a8 ∧ a8 ≤ (a7.length : Int)) : IsB (F144 k a0 a1 a2 a3 a4 a5 a6 a7 a8 a9 a10 a11 a12 a13 a14 a15 a16 a17 a18 a19 a20 a21 a22 a23) (Opn a0 (a7.length : Int) a16 a17) := by
  unfold F144 F144_T Opn
  refine IsB.ite (fun c1 => IsB.tt (.inl (by simpa using c1))) (fun c1 => ?_)
  refine IsB.ite (fun c2 => IsB.tt (.inr (.inl (by simpa using c2)))) (fun c2 => ?_)
  have c1 : a0 ≠ 2 := by simpa using c1
  have c2 : a0 ≠ 3 := by simpa using c2
  refine IsB.ite (fun c3 => ?_) (fun c3 => ?_)
  · have c3 : a0 = 4 := by simpa using c3
    refine IsB.ite (fun c4 => ?_) (fun c4 => ?_)
    · have c4 : 0 < a8 := by simpa using c4
      exact IsB.tt (.inr (.inr ⟨c3, .inl (by omega)⟩))
    · refine IsB.ite (fun c5 => ?_) (fun c5 => ?_)
      · refine IsB.ite (fun c6 => ?_) (fun c6 => ?_)
        · exact IsB.tt (.inr (.inr ⟨c3, .inr ⟨c5, by simpa using c6⟩⟩))
        · have c6 : a17 = true := by simpa using c6
          refine IsB.val ?_
          simp only [c1, c2, c3, c6, dgt, decide_eq_true_eq]
          simp
      · refine IsB.val ?_
        simp only [c1, c2, c3, c5, dgt, decide_eq_true_eq]
        simp
  · have c3 : a0 ≠ 4 := by simpa using c3
    exact IsB.ff fun h => by rcases h with h | h | ⟨h, _⟩ <;> contradiction
theorem F111_is (k : Nat) (a0 a1 a2 a3 a4 a5 a6 : Int) (a7 : List (den (.int .u8))) (a8 a9 : Int) (a10 : List (den rng)) (a11 a12 : Int) (a13 : List (den (.int .u8))) (a14 : List (den erl)) (a15 a16 a17 : Bool) (a18 a19 a20 a21 a22 a23 : Int) : IsB (F111 k a0 a1 a2 a3 a4 a5 a6 a7 a8 a9 a10 a11 a12 a13 a14 a15 a16 a17 a18 a19 a20 a21 a22 a23) (Opn a0 (a7.length : Int) a16 a17) := by
  unfold F111 F111_T Opn
  refine IsB.ite (fun c1 => IsB.tt (.inl (by simpa using c1))) (fun c1 => ?_)
  refine IsB.ite (fun c2 => IsB.tt (.inr (.inl (by simpa using c2)))) (fun c2 => ?_)
  have c1 : a0 ≠ 2 := by simpa using c1
  have c2 : a0 ≠ 3 := by simpa using c2
  refine IsB.ite (fun c3 => ?_) (fun c3 => ?_)
  · have c3 : a0 = 4 := by simpa using c3
    refine IsB.ite (fun c4 => ?_) (fun c4 => ?_)
    · have c4 : 0 < (a7.length : Int) := by simpa using c4
      exact IsB.tt (.inr (.inr ⟨c3, .inl c4⟩))
    · have c4 : ¬ 0 < (a7.length : Int) := by simpa using c4
      refine IsB.ite (fun c5 => ?_) (fun c5 => ?_)
      · refine IsB.val ?_
        simp only [c1, c2, c3, c4, c5]
        simp
      · refine IsB.ff ?_
        simp only [c1, c2, c3, c4, c5]
        simp
  · have c3 : a0 ≠ 4 := by simpa using c3
    exact IsB.ff fun h => by rcases h with h | h | ⟨h, _⟩ <;> contradiction
theorem c6_is (k : Nat) (a0 a1 a2 a3 a4 a5 a6 : Int) (a7 : List (den (.int .u8))) (a8 a9 : Int) (a10 : List (den rng)) (a11 a12 : Int) (a13 : List (den (.int .u8))) (a14 : List (den erl)) (a15 a16 a17 : Bool) (a18 a19 a20 a21 a22 a23 : Int) (hl : a14.length ≤ 1048576) (he : chkP (eA a11 a12 ((a13.length : Nat) : Int)) eB a14 = true) : IsB (F76_c6 k a0 a1 a2 a3 a4 a5 a6 a7 a8 a9 a10 a11 a12 a13 a14 a15 a16 a17 a18 a19 a20 a21 a22 a23 some) (P6 a11 a18 a14) := by
  unfold F76_c6 P6
  simp only [F77_eq, Option.bind_some]
  have tail : (∀ x ∈ (a14 : List (Int × Int)), a18 ≠ -1 → x.1 < a18) → IsB (cond (a18 == (-1)) (some true) (some (inB a18 a11 1000000))) (a18 = -1 ∨ (inB a18 a11 1000000 = true ∧ ∀ x ∈ (a14 : List (Int × Int)), x.1 < a18)) := by
    intro h
    refine IsB.ite (fun c => IsB.tt (.inl (by simpa using c))) (fun c => IsB.val ?_)
    have c : a18 ≠ -1 := by simpa using c
    exact ⟨fun e => .inr ⟨e, fun x hx => h x hx c⟩, fun e => (e.resolve_left c).1⟩
  refine IsB.ite (fun c1 => ?_) (fun c1 => ?_)
  · have c1 : 0 < (a14.length : Int) := by simpa using c1
    refine IsB.ite (fun c2 => ?_) (fun c2 => ?_)
    · have c2 : a18 ≠ -1 := by simpa using c2
      obtain ⟨d, q, h1, h2, _⟩ := last_atG a14 (fun e => by rw [e] at c1; simp at c1)
      have hq := chkP_last h1 he
      rw [i64_in (((a14.length : Nat) : Int) - 1) (by omega), h2]
      rw [decide_eq_true (by omega : (0 : Int) ≤ ((a14.length : Nat) : Int) - 1), decide_eq_true (by omega : ((a14.length : Nat) : Int) - 1 < ((a14.length : Nat) : Int))]
      simp only [cond_true]
      refine IsB.ite (fun c3 => IsB.ff fun h => ?_) (fun c3 => tail fun x hx _ => ?_)
      · have c3 : a18 ≤ q.1 := by simpa using c3
        have := (h.resolve_left c2).2 q (by rw [h1]; simp)
        exact Int.not_lt.2 c3 this
      · have c3 : q.1 < a18 := by simpa using c3
        exact Int.lt_of_le_of_lt (hq x hx) c3
    · have c2 : a18 = -1 := by simpa using c2
      exact tail fun x _ h => absurd c2 h
  · have c1 : ¬ 0 < (a14.length : Int) := by simpa using c1
    have : a14 = [] := List.length_eq_zero_iff.1 (by omega)
    exact tail fun x hx => by rw [this] at hx; simp at hx
def P5 (a0 a4 n7 a11 : Int) (a14 : erL) (a16 a17 : Bool) (a18 a19 a20 : Int) : Prop := (0 < a4 ↔ 2 ≤ a0) ∧ (Opn a0 n7 a16 a17 ∨ (a19 = 0 ∧ (a20 = 0 ∨ a0 = 5))) ∧ P6 a11 a18 a14
theorem c5_is (k : Nat) (a0 a1 a2 a3 a4 a5 a6 : Int) (a7 : List (den (.int .u8))) (a8 a9 : Int) (a10 : List (den rng)) (a11 a12 : Int) (a13 : List (den (.int .u8))) (a14 : List (den erl)) (a15 a16 a17 : Bool) (a18 a19 a20 a21 a22 a23 : Int) (h8 : 0 ≤ a8 ∧ a8 ≤ (a7.length : Int)) (hl : a14.length ≤ 1048576) (he : chkP (eA a11 a12 ((a13.length : Nat) : Int)) eB a14 = true) (h19 : 0 ≤ a19) (h20 : 0 ≤ a20) :
    IsB (F76_c5 k a0 a1 a2 a3 a4 a5 a6 a7 a8 a9 a10 a11 a12 a13 a14 a15 a16 a17 a18 a19 a20 a21 a22 a23 some) (P5 a0 a4 (a7.length : Int) a11 a14 a16 a17 a18 a19 a20) := by
  have h6 := c6_is k a0 a1 a2 a3 a4 a5 a6 a7 a8 a9 a10 a11 a12 a13 a14 a15 a16 a17 a18 a19 a20 a21 a22 a23 hl he
  unfold F76_c5 P5
  obtain ⟨b, hb, hbo⟩ := F144_is k a0 a1 a2 a3 a4 a5 a6 a7 a8 a9 a10 a11 a12 a13 a14 a15 a16 a17 a18 a19 a20 a21 a22 a23 h8
  rw [hb]
  simp only [Option.bind_some]
  refine IsB.ite (fun c1 => IsB.ff fun h => ?_) (fun c1 => ?_)
  · have c1 : ¬ (0 < a4 ↔ 2 ≤ a0) := by
      intro e
      have : decide (a4 > 0) = decide (a0 ≥ 2) := decide_eq_decide.2 e
      rw [this] at c1
      simp at c1
    exact c1 h.1
  · have c1 : (0 < a4 ↔ 2 ≤ a0) := by
      have : decide (a4 > 0) = decide (a0 ≥ 2) := by simpa using c1
      exact decide_eq_decide.1 this
    refine IsB.ite (fun c2 => ?_) (fun c2 => ?_)
    · have c2 : ¬ Opn a0 (a7.length : Int) a16 a17 := fun e => by rw [hbo.2 e] at c2; cases c2
      refine IsB.ite (fun c3 => IsB.ff fun h => ?_) (fun c3 => ?_)
      · have c3 : 0 < a19 := by simpa using c3
        have := (h.2.1.resolve_left c2).1
        omega
      · have c3 : ¬ 0 < a19 := by simpa using c3
        refine IsB.ite (fun c4 => ?_) (fun c4 => ?_)
        · have c4 : 0 < a20 := by simpa using c4
          refine IsB.ite (fun c5 => IsB.ff fun h => ?_) (fun c5 => ?_)
          · have c5 : a0 ≠ 5 := by simpa using c5
            have := (h.2.1.resolve_left c2).2.resolve_right c5
            omega
          · have c5 : a0 = 5 := by simpa using c5
            exact h6.mono ⟨fun h => ⟨c1, .inr ⟨by omega, .inr c5⟩, h⟩, fun h => h.2.2⟩
        · have c4 : ¬ 0 < a20 := by simpa using c4
          exact h6.mono ⟨fun h => ⟨c1, .inr ⟨by omega, .inl (by omega)⟩, h⟩, fun h => h.2.2⟩
    · have c2 : b = true := by simpa using c2
      exact h6.mono ⟨fun h => ⟨c1, .inl (hbo.1 c2), h⟩, fun h => h.2.2⟩
theorem c4_is (k : Nat) (a0 a1 a2 a3 a4 a5 a6 : Int) (a7 : List (den (.int .u8))) (a8 a9 : Int) (a10 : List (den rng)) (a11 a12 : Int) (a13 : List (den (.int .u8))) (a14 : List (den erl)) (a15 a16 a17 : Bool) (a18 a19 a20 a21 a22 a23 : Int) (h5 : 0 ≤ a5 ∧ a5 ≤ 65535) (h8 : 0 ≤ a8 ∧ a8 ≤ (a7.length : Int)) (hl : a14.length ≤ 1048576) (he : chkP (eA a11 a12 ((a13.length : Nat) : Int)) eB a14 = true) (h19 : 0 ≤ a19) (h20 : 0 ≤ a20) :
    IsB (F76_c4 k a0 a1 a2 a3 a4 a5 a6 a7 a8 a9 a10 a11 a12 a13 a14 a15 a16 a17 a18 a19 a20 a21 a22 a23 some) ((a0 < 4 → a8 = 0 ∧ a6 = a5 + 1 ∧ a18 = -1) ∧ P5 a0 a4 (a7.length : Int) a11 a14 a16 a17 a18 a19 a20) := by
  have h6 := c5_is k a0 a1 a2 a3 a4 a5 a6 a7 a8 a9 a10 a11 a12 a13 a14 a15 a16 a17 a18 a19 a20 a21 a22 a23 h8 hl he h19 h20
  unfold F76_c4
  rw [i64_in (a5 + 1) (by omega)]
  refine IsB.ite (fun c1 => ?_) (fun c1 => ?_)
  · have c1 : a0 < 4 := by simpa using c1
    refine IsB.ite (fun c2 => IsB.ff fun h => ?_) (fun c2 => ?_)
    · have c2 : 0 < a8 := by simpa using c2
      have := (h.1 c1).1
      omega
    · have c2 : ¬ 0 < a8 := by simpa using c2
      refine IsB.ite (fun c3 => IsB.ff fun h => ?_) (fun c3 => ?_)
      · have c3 : a6 ≠ a5 + 1 := by simpa using c3
        exact c3 (h.1 c1).2.1
      · have c3 : a6 = a5 + 1 := by simpa using c3
        refine IsB.ite (fun c4 => IsB.ff fun h => ?_) (fun c4 => ?_)
        · have c4 : a18 ≠ -1 := by simpa using c4
          exact c4 (h.1 c1).2.2
        · have c4 : a18 = -1 := by simpa using c4
          exact h6.mono ⟨fun h => ⟨fun _ => ⟨by omega, c3, c4⟩, h⟩, fun h => h.2⟩
  · have c1 : ¬ a0 < 4 := by simpa using c1
    exact h6.mono ⟨fun h => ⟨fun e => absurd e c1, h⟩, fun h => h.2⟩
theorem c3_is (k : Nat) (a0 a1 a2 a3 a4 a5 a6 : Int) (a7 : List (den (.int .u8))) (a8 a9 : Int) (a10 : List (den rng)) (a11 a12 : Int) (a13 : List (den (.int .u8))) (a14 : List (den erl)) (a15 a16 a17 : Bool) (a18 a19 a20 a21 a22 a23 : Int) (h5 : 0 ≤ a5 ∧ a5 ≤ 65535) (h8 : 0 ≤ a8 ∧ a8 ≤ (a7.length : Int)) (hl : a14.length ≤ 1048576) (he : chkP (eA a11 a12 ((a13.length : Nat) : Int)) eB a14 = true) (h19 : 0 ≤ a19) (h20 : 0 ≤ a20) :
    IsB (F76_c3 k a0 a1 a2 a3 a4 a5 a6 a7 a8 a9 a10 a11 a12 a13 a14 a15 a16 a17 a18 a19 a20 a21 a22 a23 some) ((a17 = true → a16 = true) ∧ (a16 = true → a15 = true ∧ a8 = (a7.length : Int) ∧ 4 ≤ a0) ∧ (a0 < 4 → a8 = 0 ∧ a6 = a5 + 1 ∧ a18 = -1) ∧ P5 a0 a4 (a7.length : Int) a11 a14 a16 a17 a18 a19 a20) := by
  have h6 := c4_is k a0 a1 a2 a3 a4 a5 a6 a7 a8 a9 a10 a11 a12 a13 a14 a15 a16 a17 a18 a19 a20 a21 a22 a23 h5 h8 hl he h19 h20
  unfold F76_c3
  have rest : (a17 = true → a16 = true) → IsB (cond a16 (cond (!a15) (some false) (cond (decide (a8 < ((a7.length : Nat) : Int))) (some false) (cond (decide (a0 < 4)) (some false) (F76_c4 k a0 a1 a2 a3 a4 a5 a6 a7 a8 a9 a10 a11 a12 a13 a14 a15 a16 a17 a18 a19 a20 a21 a22 a23 some)))) (F76_c4 k a0 a1 a2 a3 a4 a5 a6 a7 a8 a9 a10 a11 a12 a13 a14 a15 a16 a17 a18 a19 a20 a21 a22 a23 some))
      ((a17 = true → a16 = true) ∧ (a16 = true → a15 = true ∧ a8 = (a7.length : Int) ∧ 4 ≤ a0) ∧ (a0 < 4 → a8 = 0 ∧ a6 = a5 + 1 ∧ a18 = -1) ∧ P5 a0 a4 (a7.length : Int) a11 a14 a16 a17 a18 a19 a20) := by
    intro h17
    refine IsB.ite (fun c1 => ?_) (fun c1 => ?_)
    · refine IsB.ite (fun c2 => IsB.ff fun h => ?_) (fun c2 => ?_)
      · rw [(h.2.1 c1).1] at c2; cases c2
      · have c2 : a15 = true := by simpa using c2
        refine IsB.ite (fun c3 => IsB.ff fun h => ?_) (fun c3 => ?_)
        · have c3 : a8 < (a7.length : Int) := by simpa using c3
          have := (h.2.1 c1).2.1
          omega
        · have c3 : ¬ a8 < (a7.length : Int) := by simpa using c3
          refine IsB.ite (fun c4 => IsB.ff fun h => ?_) (fun c4 => ?_)
          · have c4 : a0 < 4 := by simpa using c4
            have := (h.2.1 c1).2.2
            omega
          · have c4 : ¬ a0 < 4 := by simpa using c4
            exact h6.mono ⟨fun h => ⟨h17, fun _ => ⟨c2, by omega, by omega⟩, h⟩, fun h => h.2.2⟩
    · exact h6.mono ⟨fun h => ⟨h17, fun e => (by rw [c1] at e; cases e), h⟩, fun h => h.2.2⟩
  refine IsB.ite (fun c1 => ?_) (fun c1 => rest fun e => by rw [c1] at e; cases e)
  refine IsB.ite (fun c2 => IsB.ff fun h => ?_) (fun c2 => ?_)
  · rw [h.1 c1] at c2; cases c2
  · have c2 : a16 = true := by simpa using c2
    exact rest fun _ => c2
theorem F76_is (k : Nat) (a0 a1 a2 a3 a4 a5 a6 : Int) (a7 : List (den (.int .u8))) (a8 a9 : Int) (a10 : List (den rng)) (a11 a12 : Int) (a13 : List (den (.int .u8))) (a14 : List (den erl)) (a15 a16 a17 : Bool) (a18 a19 a20 a21 a22 a23 : Int) (hk4 : 4 ≤ k) (hl : a14.length ≤ 1048576) (hk : a14.length < k) : IsB (F76 k a0 a1 a2 a3 a4 a5 a6 a7 a8 a9 a10 a11 a12 a13 a14 a15 a16 a17 a18 a19 a20 a21 a22 a23) (EOK a0 a1 a2 a3 a4 a5 a6 a7 a8 a9 a10 a11 a12 a13 a14 a15 a16 a17 a18 a19 a20 a21 a22 a23) := by
  unfold F76 F76_T F76_c1 EOK
  simp only [F77_eq, Option.bind_some]
  refine IsB.must Iff.rfl fun c1 => ?_
  refine IsB.must Iff.rfl fun c2 => ?_
  refine IsB.must Iff.rfl fun c3 => ?_
  refine IsB.must Iff.rfl fun c4 => ?_
  refine IsB.must Iff.rfl fun c5 => ?_
  refine IsB.must Iff.rfl fun c6 => ?_
  unfold F76_c2
  simp only [F77_eq, F141_eq k a6 a7 a8 a9 a10 hk4, F142_eq k a11 a12 a13 a14 hl hk, F143_eq, Option.bind_some]
  refine IsB.must Iff.rfl fun c7 => ?_
  refine IsB.not (Q := True) (fun c => fun h => ?_) (fun c => ?_)
  · have c : a6 ≤ a5 := by simpa using c
    exact absurd h.1 (by omega)
  have c8 : a5 < a6 := by simpa using c
  refine IsB.mono (P := earB a11 a12 a13 a14 = true ∧ _) ?_ ⟨fun h => ⟨c8, h⟩, fun h => h.2⟩
  refine IsB.must Iff.rfl fun c9 => ?_
  refine IsB.must Iff.rfl fun c10 => ?_
  refine IsB.must Iff.rfl fun c11 => ?_
  refine IsB.must Iff.rfl fun c12 => ?_
  rw [inB_iff] at c6 c11 c12
  exact c3_is k a0 a1 a2 a3 a4 a5 a6 a7 a8 a9 a10 a11 a12 a13 a14 a15 a16 a17 a18 a19 a20 a21 a22 a23 c6 (mok_iff.1 c7).2.2.1 hl (ear_iff.1 c9).2.2.2 c11.1 c12.1

/-! ### the program's own check -/
theorem lastOk_l (k : Nat) (a0 a1 a2 a3 a4 a5 a6 : Int) (a7 : List (den (.int .u8))) (a8 a9 : Int) (a10 : List (den rng)) (a11 a12 : Int) (a13 : List (den (.int .u8))) (a14 : List (den erl)) (a15 a16 a17 : Bool) (a18 a19 a20 a21 a22 a23 : Int) (hl : a14.length ≤ 1048576) (hk : a14.length < k) : F110_l0 k a0 a1 a2 a3 a4 a5 a6 a7 a8 a9 a10 a11 a12 a13 a14 a15 a16 a17 a18 a19 a20 a21 a22 a23 k 0 = some (a14.all (fun x => decide (@LT.lt Int _ x.1 a18)) && (inB a18 a11 1000000 && decide (4 ≤ a0))) := by
  have := scanLoop a14 (fun n (_ : Unit) j => F110_l0 k a0 a1 a2 a3 a4 a5 a6 a7 a8 a9 a10 a11 a12 a13 a14 a15 a16 a17 a18 a19 a20 a21 a22 a23 n j) (fun _ _ x => cond (decide (@LT.lt Int _ x.1 a18)) (.inl ()) (.inr false)) (fun _ => inB a18 a11 1000000 && decide (4 ≤ a0))
    (fun n s j h => by
      rw [F110_l0]
      unfold F110_l0_T
      rw [atI_get a14 j h, up1 j (by omega)]
      rw [decide_eq_true (by omega : ((j : Nat) : Int) < (a14.length : Nat)), decide_eq_true (by omega : (0 : Int) ≤ (j : Nat)), dge a14[j].1 a18]
      show cond true (cond true (cond true (cond (!decide (@LT.lt Int _ a14[j].1 a18)) _ _) _) _) _ = _
      cases decide (@LT.lt Int _ a14[j].1 a18) <;> rfl)
    (fun n s => by
      rw [F110_l0]
      unfold F110_l0_T
      rw [decide_eq_false (by omega : ¬ ((a14.length : Nat) : Int) < (a14.length : Nat)), cond_false, F106_eq, Option.bind_some]
      have : decide (a0 ≥ 4) = decide (4 ≤ a0) := rfl
      rw [this]
      cases inB a18 a11 1000000 <;> rfl) k () 0 (Nat.zero_le _) (by omega)
  rw [scan_all, List.drop_zero] at this
  exact this
theorem all_iff (a14 : erL) (a18 : Int) : a14.all (fun x => decide (@LT.lt Int _ x.1 a18)) = true ↔ ∀ x ∈ (a14 : List (Int × Int)), x.1 < a18 := by
  rw [List.all_eq_true]
  exact ⟨fun h x hx => of_decide_eq_true (h x hx), fun h x hx => decide_eq_true (h x hx)⟩
def PL (a0 a1 a2 a3 a4 a5 a6 : Int) (a7 : List (den (.int .u8))) (a8 a9 : Int) (a10 : List (den rng)) (a11 a12 : Int) (a13 : List (den (.int .u8))) (a14 : List (den erl)) (a15 a16 a17 : Bool) (a18 a19 a20 a21 a22 a23 : Int) : Prop := (a17 = true → a16 = true) ∧ (a16 = true → a15 = true ∧ a8 = (a7.length : Int) ∧ 4 ≤ a0) ∧ (a18 = -1 ∨ ((∀ x ∈ (a14 : List (Int × Int)), x.1 < a18) ∧ inB a18 a11 1000000 = true ∧ 4 ≤ a0))
theorem lastOk_is (k : Nat) (a0 a1 a2 a3 a4 a5 a6 : Int) (a7 : List (den (.int .u8))) (a8 a9 : Int) (a10 : List (den rng)) (a11 a12 : Int) (a13 : List (den (.int .u8))) (a14 : List (den erl)) (a15 a16 a17 : Bool) (a18 a19 a20 a21 a22 a23 : Int) (hl : a14.length ≤ 1048576) (hk : a14.length < k) : IsB (F110 k a0 a1 a2 a3 a4 a5 a6 a7 a8 a9 a10 a11 a12 a13 a14 a15 a16 a17 a18 a19 a20 a21 a22 a23) (PL a0 a1 a2 a3 a4 a5 a6 a7 a8 a9 a10 a11 a12 a13 a14 a15 a16 a17 a18 a19 a20 a21 a22 a23) := by
  unfold F110 F110_T F110_j1 PL
  dsimp only
  rw [lastOk_l k a0 a1 a2 a3 a4 a5 a6 a7 a8 a9 a10 a11 a12 a13 a14 a15 a16 a17 a18 a19 a20 a21 a22 a23 hl hk]
  have tail : IsB (cond (a18 == (-1)) (some true) (some (a14.all (fun x => decide (@LT.lt Int _ x.1 a18)) && (inB a18 a11 1000000 && decide (4 ≤ a0))))) (a18 = -1 ∨ ((∀ x ∈ (a14 : List (Int × Int)), x.1 < a18) ∧ inB a18 a11 1000000 = true ∧ 4 ≤ a0)) := by
    refine IsB.ite (fun c => IsB.tt (.inl (by simpa using c))) (fun c => IsB.val ?_)
    have c : a18 ≠ -1 := by simpa using c
    rw [Bool.and_eq_true, Bool.and_eq_true, all_iff, decide_eq_true_eq]
    exact ⟨fun h => .inr h, fun h => h.resolve_left c⟩
  have rest : (a17 = true → a16 = true) → IsB (cond a16 (cond (!a15) (some false) (cond (a8 != ((a7.length : Nat) : Int)) (some false) (cond (decide (a0 < 4)) (some false) (cond (a18 == (-1)) (some true) (some (a14.all (fun x => decide (@LT.lt Int _ x.1 a18)) && (inB a18 a11 1000000 && decide (4 ≤ a0)))))))) (cond (a18 == (-1)) (some true) (some (a14.all (fun x => decide (@LT.lt Int _ x.1 a18)) && (inB a18 a11 1000000 && decide (4 ≤ a0))))))
      ((a17 = true → a16 = true) ∧ (a16 = true → a15 = true ∧ a8 = (a7.length : Int) ∧ 4 ≤ a0) ∧ (a18 = -1 ∨ ((∀ x ∈ (a14 : List (Int × Int)), x.1 < a18) ∧ inB a18 a11 1000000 = true ∧ 4 ≤ a0))) := by
    intro h17
    refine IsB.ite (fun c1 => ?_) (fun c1 => ?_)
    · refine IsB.ite (fun c2 => IsB.ff fun h => ?_) (fun c2 => ?_)
      · rw [(h.2.1 c1).1] at c2; cases c2
      · have c2 : a15 = true := by simpa using c2
        refine IsB.ite (fun c3 => IsB.ff fun h => ?_) (fun c3 => ?_)
        · have c3 : a8 ≠ (a7.length : Int) := by simpa using c3
          exact c3 (h.2.1 c1).2.1
        · have c3 : a8 = (a7.length : Int) := by simpa using c3
          refine IsB.ite (fun c4 => IsB.ff fun h => ?_) (fun c4 => ?_)
          · have c4 : a0 < 4 := by simpa using c4
            have := (h.2.1 c1).2.2
            omega
          · have c4 : ¬ a0 < 4 := by simpa using c4
            exact tail.mono ⟨fun h => ⟨h17, fun _ => ⟨c2, c3, by omega⟩, h⟩, fun h => h.2.2⟩
    · exact tail.mono ⟨fun h => ⟨h17, fun e => (by rw [c1] at e; cases e), h⟩, fun h => h.2.2⟩
  refine IsB.ite (fun c1 => ?_) (fun c1 => rest fun e => by rw [c1] at e; cases e)
  refine IsB.ite (fun c2 => IsB.ff fun h => ?_) (fun c2 => ?_)
  · rw [h.1 c1] at c2; cases c2
  · have c2 : a16 = true := by simpa using c2
    exact rest fun _ => c2
theorem j2_is (k : Nat) (a0 a1 a2 a3 a4 a5 a6 : Int) (a7 : List (den (.int .u8))) (a8 a9 : Int) (a10 : List (den rng)) (a11 a12 : Int) (a13 : List (den (.int .u8))) (a14 : List (den erl)) (a15 a16 a17 : Bool) (a18 a19 a20 a21 a22 a23 : Int) : IsB (F35_j2 k a0 a1 a2 a3 a4 a5 a6 a7 a8 a9 a10 a11 a12 a13 a14 a15 a16 a17 a18 a19 a20 a21 a22 a23 some) (Opn a0 (a7.length : Int) a16 a17 ∨ (a19 = 0 ∧ (a20 = 0 ∨ a0 = 5))) := by
  unfold F35_j2
  obtain ⟨b, hb, hbo⟩ := F111_is k a0 a1 a2 a3 a4 a5 a6 a7 a8 a9 a10 a11 a12 a13 a14 a15 a16 a17 a18 a19 a20 a21 a22 a23
  rw [hb, Option.bind_some]
  refine IsB.ite (fun c1 => IsB.tt (.inl (hbo.1 c1))) (fun c1 => ?_)
  have c1 : ¬ Opn a0 (a7.length : Int) a16 a17 := fun e => by rw [hbo.2 e] at c1; cases c1
  refine IsB.ite (fun c2 => ?_) (fun c2 => IsB.ff fun h => ?_)
  · have c2 : a19 = 0 := by simpa using c2
    refine IsB.ite (fun c3 => IsB.tt (.inr ⟨c2, .inl (by simpa using c3)⟩)) (fun c3 => IsB.val ?_)
    have c3 : a20 ≠ 0 := by simpa using c3
    rw [beq_iff_eq]
    exact ⟨fun h => .inr ⟨c2, .inr h⟩, fun h => (h.resolve_left c1).2.resolve_left c3⟩
  · have c2 : a19 ≠ 0 := by simpa using c2
    exact c2 (h.resolve_left c1).1
theorem j1_is (k : Nat) (a0 a1 a2 a3 a4 a5 a6 : Int) (a7 : List (den (.int .u8))) (a8 a9 : Int) (a10 : List (den rng)) (a11 a12 : Int) (a13 : List (den (.int .u8))) (a14 : List (den erl)) (a15 a16 a17 : Bool) (a18 a19 a20 a21 a22 a23 : Int) (h0 : 0 ≤ a0) (h4 : 0 ≤ a4) : IsB (F35_j1 k a0 a1 a2 a3 a4 a5 a6 a7 a8 a9 a10 a11 a12 a13 a14 a15 a16 a17 a18 a19 a20 a21 a22 a23 some) ((0 < a4 ↔ 2 ≤ a0) ∧ (Opn a0 (a7.length : Int) a16 a17 ∨ (a19 = 0 ∧ (a20 = 0 ∨ a0 = 5)))) := by
  have h2 := j2_is k a0 a1 a2 a3 a4 a5 a6 a7 a8 a9 a10 a11 a12 a13 a14 a15 a16 a17 a18 a19 a20 a21 a22 a23
  unfold F35_j1
  refine IsB.ite (fun c1 => ?_) (fun c1 => ?_)
  · have c1 : a0 = 0 := by simpa using c1
    refine IsB.ite (fun c2 => IsB.ff fun h => ?_) (fun c2 => ?_)
    · have c2 : a4 ≠ 0 := by simpa using c2
      have := h.1.1 (by omega)
      omega
    · have c2 : a4 = 0 := by simpa using c2
      exact h2.mono ⟨fun h => ⟨by omega, h⟩, fun h => h.2⟩
  · have c1 : a0 ≠ 0 := by simpa using c1
    refine IsB.ite (fun c2 => IsB.ff fun h => ?_) (fun c2 => ?_)
    · have h1 := h.1
      by_cases e1 : a4 = 0 <;> by_cases e2 : a0 = 1
      · simp [e1, e2] at c2
      · have : ¬ 2 ≤ a0 := fun e => by have := h1.2 e; omega
        omega
      · have := h1.1 (by omega); omega
      · rw [beq_eq_false_iff_ne.2 e1, beq_eq_false_iff_ne.2 e2] at c2; cases c2
    · have c2 : (a4 == 0) = (a0 == 1) := by simpa using c2
      refine h2.mono ⟨fun h => ⟨?_, h⟩, fun h => h.2⟩
      by_cases e1 : a4 = 0 <;> by_cases e2 : a0 = 1
      · omega
      · simp [e1, e2] at c2
      · simp [e1, e2] at c2
      · omega
theorem F35_is (k : Nat) (a0 a1 a2 a3 a4 a5 a6 : Int) (a7 : List (den (.int .u8))) (a8 a9 : Int) (a10 : List (den rng)) (a11 a12 : Int) (a13 : List (den (.int .u8))) (a14 : List (den erl)) (a15 a16 a17 : Bool) (a18 a19 a20 a21 a22 a23 : Int) (hk4 : 4 ≤ k) (h13 : a13.length ≤ 1048576) (hl : a14.length ≤ 1048576) (hk : a14.length < k) : IsB (F35 k a0 a1 a2 a3 a4 a5 a6 a7 a8 a9 a10 a11 a12 a13 a14 a15 a16 a17 a18 a19 a20 a21 a22 a23) (EOK a0 a1 a2 a3 a4 a5 a6 a7 a8 a9 a10 a11 a12 a13 a14 a15 a16 a17 a18 a19 a20 a21 a22 a23) := by
  unfold F35 F35_T EOK
  simp only [F106_eq, F96_eq, F97_eq, F107_eq k a6 a7 a8 a9 a10 hk4, F108_eq k a11 a12 a13 a14 h13 hl hk, F109_eq, Option.bind_some]
  refine IsB.must Iff.rfl fun c1 => ?_
  refine IsB.must Iff.rfl fun c2 => ?_
  refine IsB.mono (P := inB a2 1 255 = true ∧ inB a3 0 65535 = true ∧ _) ?_ ⟨fun h => ⟨h.2.1, h.1, h.2.2⟩, fun h => ⟨h.2.1, h.1, h.2.2⟩⟩
  refine IsB.must Iff.rfl fun c4 => ?_
  refine IsB.must Iff.rfl fun c3 => ?_
  refine IsB.must Iff.rfl fun c5 => ?_
  refine IsB.must Iff.rfl fun c6 => ?_
  refine IsB.must Iff.rfl fun c7 => ?_
  rw [inB_iff] at c1 c5 c6
  rw [i64_in (a5 + 1) (by omega)]
  refine IsB.not (Q := True) (fun c => fun h => ?_) (fun c => ?_)
  · have c : a6 < a5 + 1 := by simpa using c
    exact absurd h.1 (by omega)
  have c8 : a5 < a6 := by
    have c : ¬ a6 < a5 + 1 := by simpa using c
    omega
  refine IsB.mono (P := earB a11 a12 a13 a14 = true ∧ _) ?_ ⟨fun h => ⟨c8, h⟩, fun h => h.2⟩
  refine IsB.must Iff.rfl fun c9 => ?_
  refine IsB.must Iff.rfl fun c10 => ?_
  refine IsB.must Iff.rfl fun c11 => ?_
  refine IsB.must Iff.rfl fun c12 => ?_
  have hm := (mok_iff.1 c7).2.2.1
  obtain ⟨b, hb, hbo⟩ := lastOk_is k a0 a1 a2 a3 a4 a5 a6 a7 a8 a9 a10 a11 a12 a13 a14 a15 a16 a17 a18 a19 a20 a21 a22 a23 hl hk
  have hj := j1_is k a0 a1 a2 a3 a4 a5 a6 a7 a8 a9 a10 a11 a12 a13 a14 a15 a16 a17 a18 a19 a20 a21 a22 a23 c1.1 c5.1
  rw [hb, Option.bind_some]
  unfold PL at hbo
  unfold P6
  refine IsB.ite (fun d1 => IsB.ff fun h => ?_) (fun d1 => ?_)
  · have : b = true := hbo.2 ⟨h.1, h.2.1, by
      rcases h.2.2.2.2.2 with h6 | ⟨h6, h7⟩
      · exact .inl h6
      · by_cases h4 : a0 < 4
        · exact .inl (h.2.2.1 h4).2.2
        · exact .inr ⟨h7, h6, by omega⟩⟩
    rw [this] at d1
    cases d1
  · have d1 : b = true := by simpa using d1
    obtain ⟨q1, q2, q3⟩ := hbo.1 d1
    have q6 : a18 = -1 ∨ (inB a18 a11 1000000 = true ∧ ∀ x ∈ (a14 : List (Int × Int)), x.1 < a18) := q3.imp id fun h => ⟨h.2.1, h.1⟩
    refine IsB.ite (fun d2 => ?_) (fun d2 => ?_)
    · have d2 : a0 < 4 := by simpa using d2
      have q7 : a18 = -1 := by
        rcases q3 with h | h
        · exact h
        · have := h.2.2
          omega
      refine IsB.ite (fun d3 => IsB.ff fun h => ?_) (fun d3 => ?_)
      · have d3 : a8 ≠ 0 := by simpa using d3
        exact d3 (h.2.2.1 d2).1
      · have d3 : a8 = 0 := by simpa using d3
        refine IsB.ite (fun d4 => IsB.ff fun h => ?_) (fun d4 => ?_)
        · have d4 : a6 ≠ a5 + 1 := by simpa using d4
          exact d4 (h.2.2.1 d2).2.1
        · have d4 : a6 = a5 + 1 := by simpa using d4
          exact hj.mono ⟨fun h => ⟨q1, q2, fun _ => ⟨d3, d4, q7⟩, h.1, h.2, q6⟩, fun h => ⟨h.2.2.2.1, h.2.2.2.2.1⟩⟩
    · have d2 : ¬ a0 < 4 := by simpa using d2
      exact hj.mono ⟨fun h => ⟨q1, q2, fun e => absurd e d2, h.1, h.2, q6⟩, fun h => ⟨h.2.2.2.1, h.2.2.2.2.1⟩⟩

/-! ### copies -/
theorem F176_eq (k : Nat) (l : erL) : F176 k l = some l := by
  simp only [F176, F176_T]
  rw [decide_eq_true (by omega : (0 : Int) ≤ ((l.length : Nat) : Int))]
  simp
theorem F170_eq (k : Nat) (l : erL) (h : l.length ≤ 4194304) : F170 k l = some l := by
  simp only [F170, F170_T, F176_eq, List.nil_append, List.length_nil, Nat.zero_add]
  rw [decide_eq_true (by omega : l.length * 16 ≤ 140737488355328)]
  cases l with
  | nil => rfl
  | cons a r => rw [show ((((a :: r).length : Nat) : Int) == 0) = false by rw [beq_eq_false_iff_ne]; simp only [List.length_cons]; omega]; rfl
/-- the rows of an end are no longer than this -/
def shortE (n : Nat) (a7 : u8L) (a10 : rgL) (a13 : u8L) (a14 : erL) : Prop := a7.length ≤ n ∧ a10.length ≤ n ∧ a13.length ≤ n ∧ a14.length ≤ n
theorem F78_eq (k : Nat) (a0 a1 a2 a3 a4 a5 a6 : Int) (a7 : List (den (.int .u8))) (a8 a9 : Int) (a10 : List (den rng)) (a11 a12 : Int) (a13 : List (den (.int .u8))) (a14 : List (den erl)) (a15 a16 a17 : Bool) (a18 a19 a20 a21 a22 a23 : Int) (h : shortE 1048576 a7 a10 a13 a14) : F78 k a0 a1 a2 a3 a4 a5 a6 a7 a8 a9 a10 a11 a12 a13 a14 a15 a16 a17 a18 a19 a20 a21 a22 a23 = some (a0, a1, a2, a3, a4, a5, a6, a7, a8, a9, a10, a11, a12, a13, a14, a15, a16, a17, a18, a19, a20, a21, a22, a23) := by
  obtain ⟨h7, h10, h13, h14⟩ := h
  simp only [F78, F78_T, F145, F145_T, List.nil_append, List.length_nil, Nat.zero_add]
  rw [decide_eq_true (by omega : a7.length * 1 ≤ 140737488355328), decide_eq_true (by omega : a10.length * 16 ≤ 140737488355328), decide_eq_true (by omega : a13.length * 1 ≤ 140737488355328), decide_eq_true (by omega : a14.length * 16 ≤ 140737488355328)]
  rfl
theorem F85_eq (k : Nat) (a0 a1 a2 a3 a4 a5 a6 : Int) (a7 : List (den (.int .u8))) (a8 a9 : Int) (a10 : List (den rng)) (a11 a12 : Int) (a13 : List (den (.int .u8))) (a14 : List (den erl)) (a15 a16 a17 : Bool) (a18 a19 a20 a21 a22 a23 : Int) (h : shortE 1048576 a7 a10 a13 a14) : F85 k a0 a1 a2 a3 a4 a5 a6 a7 a8 a9 a10 a11 a12 a13 a14 a15 a16 a17 a18 a19 a20 a21 a22 a23 = some (a0, a1, a2, a3, a4, a5, a6, a7, a8, a9, a10, a11, a12, a13, a14, a15, a16, a17, a18, a19, a20, a21, a22, a23) := by
  obtain ⟨h7, h10, h13, h14⟩ := h
  simp only [F85, F85_T, F147, F148, F137_eq k a7 (by omega), F137_eq k a13 (by omega), F136_eq k a10 (by omega), F170_eq k a14 (by omega), Option.bind_some]

/-! ### ranges of early bytes, segments -/
theorem chkQ_lt {A : Int × Int → Bool} : ∀ (l : List (Int × Int)) (p : Int × Int), chkQ A eB p l = true → (∀ x ∈ l, p.1 < x.1 ∧ A x = true) ∧ (l.map (·.1)).Pairwise (· < ·)
  | [], p, _ => ⟨by simp, by simp⟩
  | a :: l, p, h => by
    simp only [chkQ, Bool.and_eq_true] at h
    have hb : p.1 < a.1 := by simpa [eB] using h.1.2
    obtain ⟨h1, h2⟩ := chkQ_lt l a h.2
    refine ⟨fun x hx => ?_, ?_⟩
    · rcases List.mem_cons.1 hx with rfl | hx
      · exact ⟨hb, h.1.1⟩
      · have := h1 x hx
        exact ⟨by omega, this.2⟩
    · rw [List.map_cons, List.pairwise_cons]
      refine ⟨fun y hy => ?_, h2⟩
      obtain ⟨x, hx, rfl⟩ := List.mem_map.1 hy
      exact (h1 x hx).1
theorem chkP_lt {A : Int × Int → Bool} {l : List (Int × Int)} (h : chkP A eB l = true) : (∀ x ∈ l, A x = true) ∧ (l.map (·.1)).Pairwise (· < ·) := by
  cases l with
  | nil => exact ⟨by simp, by simp⟩
  | cons p l =>
    simp only [chkP, Bool.and_eq_true] at h
    obtain ⟨h1, h2⟩ := chkQ_lt l p h.2
    refine ⟨fun x hx => ?_, ?_⟩
    · rcases List.mem_cons.1 hx with rfl | hx
      · exact h.1
      · exact (h1 x hx).2
    · rw [List.map_cons, List.pairwise_cons]
      refine ⟨fun y hy => ?_, h2⟩
      obtain ⟨x, hx, rfl⟩ := List.mem_map.1 hy
      exact (h1 x hx).1
/-- the ranges that an ear tells -/
def rgs (l : List (Int × Int)) : List (Int × Int) := (l.map (·.1)).foldl (stS 2) []
theorem stS_len (M : Nat) (hM : 0 < M) (out : List (Int × Int)) (a : Int) (h : out.length ≤ M) : (stS M out a).length ≤ M := by
  unfold stS
  by_cases hne : out = []
  · subst hne; simp [mrg, hM]; omega
  · obtain ⟨p, r, rfl⟩ := snoc_of hne
    rw [mrg_snoc]
    split
    · simpa using h
    · simp only [Option.getD_none]
      split
      · simp at *; omega
      · exact h
theorem foldS_len : ∀ (l : List Int) (out : List (Int × Int)), out.length ≤ 2 → (l.foldl (stS 2) out).length ≤ 2
  | [], out, h => h
  | a :: l, out, h => foldS_len l _ (stS_len 2 (by decide) out a h)
theorem rgs_len (l : List (Int × Int)) : (rgs l).length ≤ 2 := foldS_len _ [] (by simp)
theorem foldl_map1 {σ : Type} (f : σ → Int → σ) : ∀ (l : List (Int × Int)) (s : σ), l.foldl (fun s x => f s x.1) s = (l.map (·.1)).foldl f s
  | [], s => rfl
  | a :: l, s => by simp only [List.foldl_cons, List.map_cons]; exact foldl_map1 f l _
theorem eA_bound {e0 e1 n : Int} {x : Int × Int} (h : eA e0 e1 n x = true) : e0 < x.1 ∧ x.1 < e0 + e1 - n := by
  unfold eA at h
  simp only [Bool.and_eq_true, decide_eq_true_eq] at h
  exact h
theorem F160_eq (k : Nat) (e0 e1 : Int) (e2 : List (den (.int .u8))) (e3 : List (den erl)) (hok : earB e0 e1 e2 e3 = true) (hl : e3.length ≤ 1048576) (hk : e3.length < k) : F160 k e0 e1 e2 e3 = some (rgs e3) := by
  obtain ⟨h0, h1, h2, h3⟩ := ear_iff.1 hok
  obtain ⟨hA, _⟩ := chkP_lt h3
  have := foldLoopI e3 (fun j (m : List (Int × Int)) => m.length ≤ 2) (fun n m j => F160_l0 k e0 e1 e2 e3 n j m) (fun m x => stS 2 m x.1) id
    (fun n m j h hp => by
      obtain ⟨b1, b2⟩ := eA_bound (hA e3[j] (List.getElem_mem h))
      have b1 : e0 < (show Int from e3[j].1) := b1
      have b2 : (show Int from e3[j].1) < e0 + e1 - ((e2.length : Nat) : Int) := b2
      have w1 : IntKind.i64.wrap (e3[j].1 + 1) = e3[j].1 + 1 := i64_in _ (by show _ ≤ (show Int from e3[j].1) + 1 ∧ (show Int from e3[j].1) + 1 ≤ _; omega)
      rw [F160_l0]
      unfold F160_l0_T F160_l0_j1
      have d1 : decide ((j : Int) < ((e3.length : Nat) : Int)) = true := decide_eq_true (by omega)
      have d0 : decide ((0 : Int) ≤ ((j : Nat) : Int)) = true := decide_eq_true (by omega)
      rw [atI_get e3 j h, up1 j (by omega), i64_in (((m.length : Nat) : Int) - 1) (by omega), w1, d1, d0]
      have hsz : decide ((m.length + [(e3[j].1, e3[j].1 + 1)].length) * 16 ≤ 140737488355328) = true := decide_eq_true (by simp; omega)
      rw [hsz]
      simp only [cond_true]
      by_cases hne : m = []
      · subst hne
        rfl
      · obtain ⟨d, p, hm, hp2, hp3⟩ := last_atG (t := rng) m hne
        have hpos : 0 < m.length := List.length_pos_iff.2 hne
        have d2 : decide ((((m.length : Nat) : Int) - 1) ≥ 0) = true := decide_eq_true (by omega)
        have d2' : decide ((0 : Int) ≤ ((m.length : Nat) : Int) - 1) = true := decide_eq_true (by omega)
        have d3 : decide (((m.length : Nat) : Int) - 1 < ((m.length : Nat) : Int)) = true := decide_eq_true (by omega)
        rw [hp2, hp3, d2, d3]
        simp only [cond_true]
        unfold stS
        rw [hm, mrg_snoc, ← hm]
        by_cases hq : p.2 = e3[j].1
        · rw [if_pos hq, hq, w1, show ((e3[j].1 : Int) == e3[j].1) = true from beq_self_eq_true _]; rfl
        · rw [if_neg hq, show ((p.2 : Int) == e3[j].1) = false from beq_eq_false_iff_ne.2 hq]
          simp only [cond_false, Option.getD_none]
          by_cases hlt : ((m.length : Nat) : Int) < 2
          · rw [decide_eq_true hlt, if_pos (by omega)]; rfl
          · rw [decide_eq_false hlt, if_neg (by omega)]; rfl)
    (fun m j h hp => stS_len 2 (by decide) m _ hp)
    (fun n m hp => by
      rw [F160_l0]
      unfold F160_l0_T
      rw [decide_eq_false (by omega : ¬ ((e3.length : Nat) : Int) < (e3.length : Nat))]; rfl) k [] 0 (Nat.zero_le _) (by omega) (by simp)
  rw [List.drop_zero, foldl_map1 (stS 2)] at this
  simp only [F160, F160_T, F142_eq k e0 e1 e2 e3 hl hk, hok, Option.bind_some, Bool.not_true, cond_false]
  exact this
theorem F172_eq (k : Nat) (e0 e1 : Int) (e2 : List (den (.int .u8))) (e3 : List (den erl)) (hok : earB e0 e1 e2 e3 = true) (hl : e3.length ≤ 1048576) (hk : e3.length < k) : F172 k e0 e1 e2 e3 = some (rgs e3) := by
  obtain ⟨h0, h1, h2, h3⟩ := ear_iff.1 hok
  obtain ⟨hA, hpw⟩ := chkP_lt h3
  have := foldLoopI e3 (fun j (m : List (Int × Int)) => m.length ≤ j) (fun n m j => F172_l0 k e0 e1 e2 e3 n j m) (fun m x => stI m x.1) (fun m => m.take 2)
    (fun n m j h hp => by
      obtain ⟨b1, b2⟩ := eA_bound (hA e3[j] (List.getElem_mem h))
      have b1 : e0 < (show Int from e3[j].1) := b1
      have b2 : (show Int from e3[j].1) < e0 + e1 - ((e2.length : Nat) : Int) := b2
      have w1 : IntKind.i64.wrap (e3[j].1 + 1) = e3[j].1 + 1 := i64_in _ (by show _ ≤ (show Int from e3[j].1) + 1 ∧ (show Int from e3[j].1) + 1 ≤ _; omega)
      rw [F172_l0]
      unfold F172_l0_T F172_l0_j1
      have d1 : decide ((j : Int) < ((e3.length : Nat) : Int)) = true := decide_eq_true (by omega)
      have d0 : decide ((0 : Int) ≤ ((j : Nat) : Int)) = true := decide_eq_true (by omega)
      rw [atI_get e3 j h, up1 j (by omega), i64_in (((m.length : Nat) : Int) - 1) (by omega), w1, d1, d0]
      have hsz : decide ((m.length + [(e3[j].1, e3[j].1 + 1)].length) * 16 ≤ 140737488355328) = true := decide_eq_true (by simp; omega)
      rw [hsz]
      simp only [cond_true]
      by_cases hne : m = []
      · subst hne
        rfl
      · obtain ⟨d, p, hm, hp2, hp3⟩ := last_atG (t := rng) m hne
        have hpos : 0 < m.length := List.length_pos_iff.2 hne
        have d2 : decide (((m.length : Nat) : Int) > 0) = true := decide_eq_true (by omega)
        have d2' : decide ((0 : Int) ≤ ((m.length : Nat) : Int) - 1) = true := decide_eq_true (by omega)
        have d3 : decide (((m.length : Nat) : Int) - 1 < ((m.length : Nat) : Int)) = true := decide_eq_true (by omega)
        rw [hp2, hp3, d2, d2', d3]
        simp only [cond_true]
        unfold stI
        rw [hm, mrg_snoc, ← hm]
        by_cases hq : p.2 = e3[j].1
        · rw [if_pos hq, hq, w1, show ((e3[j].1 : Int) == e3[j].1) = true from beq_self_eq_true _]; rfl
        · rw [if_neg hq, show ((p.2 : Int) == e3[j].1) = false from beq_eq_false_iff_ne.2 hq]; rfl)
    (fun m j h hp => by
      unfold stI
      by_cases hne : m = []
      · subst hne; simp [mrg]
      · obtain ⟨p, r, rfl⟩ := snoc_of hne
        rw [mrg_snoc]
        split <;> simp at * <;> omega)
    (fun n m hp => by
      rw [F172_l0]
      unfold F172_l0_T
      rw [decide_eq_false (by omega : ¬ ((e3.length : Nat) : Int) < (e3.length : Nat)), cond_false]
      have hb : ∀ x : Int, (if 2 < ((m.length : Nat) : Int) then (2 : Int) else ((m.length : Nat) : Int)) = x → 0 ≤ x ∧ x ≤ ((m.length : Nat) : Int) ∧ x.toNat = min 2 m.length := by
        intro x hx
        split at hx <;> subst hx <;> omega
      obtain ⟨x1, x2, x3⟩ := hb _ rfl
      rw [decide_eq_true x1, decide_eq_true x2, x3, F136_eq k _ (by simp; omega)]
      simp) k [] 0 (Nat.zero_le _) (by omega) (by simp)
  rw [List.drop_zero, foldl_map1 stI] at this
  have hr := rng_eq 2 (by decide) (e3.map (·.1)) [] [] hpw (by simp) (.inl rfl) (fun h => absurd rfl h) (fun _ a _ p r h => by simp at h)
  simp only [List.nil_append] at hr
  rw [hr] at this
  exact this

/-! ### segments of an end -/
theorem seqI (k : Nat) (a : Int) : F67 k a = some (seqOf a) := by
  rw [← F61_val k a]
  unfold F67 F61
  have hm := Int.tmod_lt_of_pos a (show (0 : Int) < 65536 by omega)
  have hm2 : -65536 < a.tmod 65536 := by
    have := Int.tmod_lt_of_pos (-a) (show (0 : Int) < 65536 by omega)
    rw [Int.neg_tmod] at this
    omega
  rw [i64_in _ (by omega)]
  by_cases hn : a.tmod 65536 < 0
  · rw [decide_eq_true hn, cond_true]
    congr 1
    rw [Int.tmod_eq_of_lt (by omega) (by omega)]
  · rw [decide_eq_false hn, cond_false]
    congr 1
    have : (a.tmod 65536 + 65536).tmod 65536 = a.tmod 65536 := by
      rw [Int.tmod_eq_emod_of_nonneg (by omega), Int.add_emod_right, Int.emod_eq_of_lt (by omega) hm]
    exact this
def sq (r : Int × Int) : Int × Int := (seqOf r.1, seqOf r.2)
theorem foldl_app {α β : Type} (f : α → β) : ∀ (l : List α) (s : List β), l.foldl (fun s a => s ++ [f a]) s = s ++ l.map f
  | [], s => by simp
  | a :: l, s => by simp only [List.foldl_cons, foldl_app f l, List.map_cons, List.append_assoc, List.singleton_append]
/-- the place for which an end waits -/
def waitE (a11 a18 : Int) : Int := cond (a18 == a11) (IntKind.i64.wrap (a11 + 1)) a11
theorem F115_l (k : Nat) (a0 a1 a2 a3 a4 a5 a6 : Int) (a7 : List (den (.int .u8))) (a8 a9 : Int) (a10 : List (den rng)) (a11 a12 : Int) (a13 : List (den (.int .u8))) (a14 : List (den erl)) (a15 a16 a17 : Bool) (a18 a19 a20 a21 a22 a23 : Int) (at' c2 c3 c4 : Int) (l : List (Int × Int)) (hl : l.length ≤ 2) (hk : 4 ≤ k) :
    F115_l0 k a0 a1 a2 a3 a4 a5 a6 a7 a8 a9 a10 a11 a12 a13 a14 a15 a16 a17 a18 a19 a20 a21 a22 a23 at' k 0 c2 c3 c4 [] l = some (a2, a4, c2, c3, c4, false, true, false, false, l.map sq, []) := by
  have := foldLoopI l (fun j (m : List (Int × Int)) => m.length ≤ j) (fun n m j => F115_l0 k a0 a1 a2 a3 a4 a5 a6 a7 a8 a9 a10 a11 a12 a13 a14 a15 a16 a17 a18 a19 a20 a21 a22 a23 at' n j c2 c3 c4 m l) (fun m r => m ++ [sq r])
    (fun m => (a2, a4, c2, c3, c4, false, true, false, false, m, []))
    (fun n m j h hp => by
      rw [F115_l0]
      unfold F115_l0_T
      rw [atI_get (t := rng) l j h, up1 j (by omega), decide_eq_true (by omega : ((j : Nat) : Int) < (l.length : Nat)), decide_eq_true (by omega : (0 : Int) ≤ (j : Nat)), F61_val, F61_val]
      simp only [cond_true, Option.bind_some]
      rw [decide_eq_true (by simp; omega)]
      rfl)
    (fun m j h hp => by simp; omega)
    (fun n m hp => by
      rw [F115_l0]
      unfold F115_l0_T
      rw [decide_eq_false (by omega : ¬ ((l.length : Nat) : Int) < (l.length : Nat))]; rfl) k [] 0 (Nat.zero_le _) (by omega) (by simp)
  rw [List.drop_zero, foldl_app, List.nil_append] at this
  exact this
theorem F115_eq (k : Nat) (a0 a1 a2 a3 a4 a5 a6 : Int) (a7 : List (den (.int .u8))) (a8 a9 : Int) (a10 : List (den rng)) (a11 a12 : Int) (a13 : List (den (.int .u8))) (a14 : List (den erl)) (a15 a16 a17 : Bool) (a18 a19 a20 a21 a22 a23 : Int) (at' : Int) (h0 : a0 ≠ 2) (hok : earB a11 a12 a13 a14 = true) (hl : a14.length ≤ 1048576) (hk : a14.length < k) (hk4 : 4 ≤ k) :
    F115 k a0 a1 a2 a3 a4 a5 a6 a7 a8 a9 a10 a11 a12 a13 a14 a15 a16 a17 a18 a19 a20 a21 a22 a23 at' = some (a2, a4, seqOf at', seqOf (waitE a11 a18), a12 - ((a13.length : Nat) : Int), false, true, false, false, (rgs a14).map sq, []) := by
  obtain ⟨_, h1, h2, _⟩ := ear_iff.1 hok
  have hw : F159 k a0 a1 a2 a3 a4 a5 a6 a7 a8 a9 a10 a11 a12 a13 a14 a15 a16 a17 a18 a19 a20 a21 a22 a23 = some (waitE a11 a18) := by unfold F159 waitE; rw [some_cond]
  have hf : F127 k a11 a12 a13 a14 = some (a12 - ((a13.length : Nat) : Int)) := by
    simp only [F127, F127_T, F142_eq k a11 a12 a13 a14 hl hk, hok, Option.bind_some, Bool.not_true, cond_false]
    rw [i64_in _ (by omega)]
  unfold F115 F115_T
  refine (bs (F61_val k at')).trans ?_
  refine (cf (beq_eq_false_iff_ne.2 h0)).trans ?_
  refine (bs hw).trans ?_
  refine (bs (F61_val k _)).trans ?_
  refine (bs hf).trans ?_
  refine (bs (F160_eq k a11 a12 a13 a14 hok hl hk)).trans ?_
  exact F115_l k a0 a1 a2 a3 a4 a5 a6 a7 a8 a9 a10 a11 a12 a13 a14 a15 a16 a17 a18 a19 a20 a21 a22 a23 at' _ _ _ (rgs a14) (rgs_len _) hk4
theorem copyNil (k : Nat) (a0 a1 a2 a3 a4 : Int) (a5 a6 a7 a8 : Bool) (a9 : rgL) (h : a9.length ≤ 4194304) : F68 k a0 a1 a2 a3 a4 a5 a6 a7 a8 a9 = some (a0, a1, a2, a3, a4, a5, a6, a7, a8, a9, []) := by
  simp only [F68, F68_T, F136_eq k a9 h, Option.bind_some]
  rfl
theorem F149_l (k : Nat) (a0 a1 a2 a3 a4 a5 a6 : Int) (a7 : List (den (.int .u8))) (a8 a9 : Int) (a10 : List (den rng)) (a11 a12 : Int) (a13 : List (den (.int .u8))) (a14 : List (den erl)) (a15 a16 a17 : Bool) (a18 a19 a20 a21 a22 a23 : Int) (at' c2 c3 c4 : Int) (l : List (Int × Int)) (hl : l.length ≤ 2) (hk : 4 ≤ k) :
    F149_l0 k a0 a1 a2 a3 a4 a5 a6 a7 a8 a9 a10 a11 a12 a13 a14 a15 a16 a17 a18 a19 a20 a21 a22 a23 at' k ((l.length : Nat) : Int) 0 c2 c3 c4 [] l = some (a2, a4, c2, c3, c4, false, true, false, false, l.map sq, []) := by
  have := foldLoopI l (fun j (m : List (Int × Int)) => m.length ≤ j) (fun n m j => F149_l0 k a0 a1 a2 a3 a4 a5 a6 a7 a8 a9 a10 a11 a12 a13 a14 a15 a16 a17 a18 a19 a20 a21 a22 a23 at' n ((l.length : Nat) : Int) j c2 c3 c4 m l) (fun m r => m ++ [sq r])
    (fun m => (a2, a4, c2, c3, c4, false, true, false, false, m, []))
    (fun n m j h hp => by
      rw [F149_l0]
      unfold F149_l0_T
      rw [atI_get (t := rng) l j h, up1 j (by omega), decide_eq_true (by omega : ((j : Nat) : Int) < (l.length : Nat)), decide_eq_true (by omega : (0 : Int) ≤ (j : Nat)), seqI, seqI]
      simp only [cond_true, Option.bind_some]
      rw [decide_eq_true (by simp; omega)]
      rfl)
    (fun m j h hp => by simp; omega)
    (fun n m hp => by
      rw [F149_l0]
      unfold F149_l0_T
      rw [decide_eq_false (by omega : ¬ ((l.length : Nat) : Int) < (l.length : Nat)), cond_false, copyNil k _ _ _ _ _ _ _ _ _ m (by omega)]; rfl) k [] 0 (Nat.zero_le _) (by omega) (by simp)
  rw [List.drop_zero, foldl_app, List.nil_append] at this
  exact this
theorem F149_eq (k : Nat) (a0 a1 a2 a3 a4 a5 a6 : Int) (a7 : List (den (.int .u8))) (a8 a9 : Int) (a10 : List (den rng)) (a11 a12 : Int) (a13 : List (den (.int .u8))) (a14 : List (den erl)) (a15 a16 a17 : Bool) (a18 a19 a20 a21 a22 a23 : Int) (at' : Int) (hok : earB a11 a12 a13 a14 = true) (hl : a14.length ≤ 1048576) (hk : a14.length < k) (hk4 : 4 ≤ k) :
    F149 k a0 a1 a2 a3 a4 a5 a6 a7 a8 a9 a10 a11 a12 a13 a14 a15 a16 a17 a18 a19 a20 a21 a22 a23 at' = some (a2, a4, seqOf at', seqOf (waitE a11 a18), a12 - ((a13.length : Nat) : Int), false, true, false, false, (rgs a14).map sq, []) := by
  obtain ⟨_, h1, h2, _⟩ := ear_iff.1 hok
  have hw : F171 k a0 a1 a2 a3 a4 a5 a6 a7 a8 a9 a10 a11 a12 a13 a14 a15 a16 a17 a18 a19 a20 a21 a22 a23 = some (waitE a11 a18) := by unfold F171 waitE; rw [some_cond]
  have hf : F124 k a11 a12 a13 a14 = some (a12 - ((a13.length : Nat) : Int)) := by unfold F124; rw [i64_in _ (by omega)]
  unfold F149 F149_T
  refine (bs (seqI k at')).trans ?_
  refine (bs hw).trans ?_
  refine (bs (seqI k _)).trans ?_
  refine (bs hf).trans ?_
  refine (bs (F172_eq k a11 a12 a13 a14 hok hl hk)).trans ?_
  exact F149_l k a0 a1 a2 a3 a4 a5 a6 a7 a8 a9 a10 a11 a12 a13 a14 a15 a16 a17 a18 a19 a20 a21 a22 a23 at' _ _ _ (rgs a14) (rgs_len _) hk4

/-! ### ends held against themselves, marked, counted -/
theorem F140_eq (k : Nat) (l : erL) (x : Int) (hl : l.length ≤ maxLen) (hx : 0 ≤ x ∧ x ≤ 1048576) : F140 k l x = some (if (l.length : Int) ≤ x then x - (l.length : Int) else -1) := by
  simp only [F140, F140_T]
  rw [ml] at hl
  rw [i64_in _ (by omega)]
  by_cases h : (l.length : Int) ≤ x
  · rw [decide_eq_false (by omega), if_pos h]; rfl
  · rw [decide_eq_true (by omega), if_neg h]; rfl
theorem szEnd_eq (k : Nat) (a0 a1 a2 a3 a4 a5 a6 : Int) (a7 : List (den (.int .u8))) (a8 a9 : Int) (a10 : List (den rng)) (a11 a12 : Int) (a13 : List (den (.int .u8))) (a14 : List (den erl)) (a15 a16 a17 : Bool) (a18 a19 a20 a21 a22 a23 : Int) (h7 : a7.length ≤ maxLen) (h10 : a10.length ≤ maxLen) (h13 : a13.length ≤ maxLen) (h14 : a14.length ≤ maxLen) :
    ∃ r, F19 k a0 a1 a2 a3 a4 a5 a6 a7 a8 a9 a10 a11 a12 a13 a14 a15 a16 a17 a18 a19 a20 a21 a22 a23 1048576 = some r ∧ (r < 0 ∨ (0 ≤ r ∧ (a7.length : Int) + (a10.length : Int) + (a13.length : Int) + (a14.length : Int) ≤ 1048576)) := by
  have neg : ∃ r : Int, some (-1 : Int) = some r ∧ (r < 0 ∨ (0 ≤ r ∧ (a7.length : Int) + (a10.length : Int) + (a13.length : Int) + (a14.length : Int) ≤ 1048576)) := ⟨-1, rfl, .inl (by decide)⟩
  unfold F19 F19_T F74 F74_T F75 F75_T
  rw [F58_eq k a7 1048576 h7 (by omega), Option.bind_some]
  by_cases c1 : (a7.length : Int) ≤ 1048576
  · rw [if_pos c1, decide_eq_false (by omega), cond_false, F57_eq k a10 _ h10 (by omega), Option.bind_some]
    by_cases c2 : (a10.length : Int) ≤ 1048576 - (a7.length : Int)
    · rw [if_pos c2, decide_eq_false (by omega), cond_false, Option.bind_some, decide_eq_false (by omega), cond_false, F58_eq k a13 _ h13 (by omega), Option.bind_some]
      by_cases c3 : (a13.length : Int) ≤ 1048576 - (a7.length : Int) - (a10.length : Int)
      · rw [if_pos c3, decide_eq_false (by omega), cond_false, F140_eq k a14 _ h14 (by omega), Option.bind_some]
        by_cases c4 : (a14.length : Int) ≤ 1048576 - (a7.length : Int) - (a10.length : Int) - (a13.length : Int)
        · rw [if_pos c4, decide_eq_false (by omega), cond_false, Option.bind_some, decide_eq_false (by omega), cond_false]
          exact ⟨_, rfl, .inr ⟨by omega, by omega⟩⟩
        · rw [if_neg c4]; exact neg
      · rw [if_neg c3]; exact neg
    · rw [if_neg c2]; exact neg
  · rw [if_neg c1]; exact neg
theorem F146_eq (k : Nat) (l : erL) (hl : l.length ≤ 1048576) (hk : l.length < k) : F146 k l = some l := by
  have := copyLoop l id (fun n j m => F146_l0 k l n j m) id
    (fun n j m h hm => by
      simp only [F146_l0, F146_l0_T]
      rw [atI_get l j h, up1 j (by omega), F169]
      simp only [Option.bind_some]
      rw [decide_eq_true (by omega : ((j : Nat) : Int) < (l.length : Nat)), decide_eq_true (by omega : (0 : Int) ≤ (j : Nat)), decide_eq_true (by omega : ((j : Nat) : Int) < (m.length : Nat))]
      rfl)
    (fun n m hm => by simp [F146_l0, F146_l0_T]) k 0 (List.replicate l.length (dflt erl)) (Nat.zero_le _) (by omega) (by simp) (by simp)
  simp only [List.map_id] at this
  simp only [F146, F146_T]
  rw [decide_eq_true (by omega : (0 : Int) ≤ ((l.length : Nat) : Int)), decide_eq_true (by omega : ((l.length : Nat) : Int) * (16 : Nat) ≤ 140737488355328)]
  simp only [decide_true, Bool.and_self, cond_true]
  exact this
theorem F21_eq (k : Nat) (a0 a1 a2 a3 a4 a5 a6 : Int) (a7 : List (den (.int .u8))) (a8 a9 : Int) (a10 : List (den rng)) (a11 a12 : Int) (a13 : List (den (.int .u8))) (a14 : List (den erl)) (a15 a16 a17 : Bool) (a18 a19 a20 a21 a22 a23 : Int) (h : shortE 1048576 a7 a10 a13 a14) (hk : 1048576 < k) : F21 k a0 a1 a2 a3 a4 a5 a6 a7 a8 a9 a10 a11 a12 a13 a14 a15 a16 a17 a18 a19 a20 a21 a22 a23 = some (a0, a1, a2, a3, a4, a5, a6, a7, a8, a9, a10, a11, a12, a13, a14, a15, a16, a17, a18, a19, a20, a21, a22, a23) := by
  obtain ⟨h7, h10, h13, h14⟩ := h
  simp only [F21, F21_T, F81, F82, F83, F40_eq k a7 h7 (by omega), F40_eq k a13 h13 (by omega), F64_eq k a10 h10 (by omega), F146_eq k a14 h14 (by omega), Option.bind_some]
theorem F150_self (k : Nat) (a : erL) (h9 : a.length ≤ 4194304) (k9 : a.length < k) : F150 k a a = some true := by
  have := foldLoop a (fun n (_ : Unit) j => F150_l0 k a a n j) (fun s _ => s) (fun _ => true)
    (fun n s j h => by
      simp only [F150_l0, F150_l0_T]
      rw [atI_get a j h, up1 j (by omega), F173]
      simp [h])
    (fun n s => by simp [F150_l0, F150_l0_T]) k () 0 (Nat.zero_le _) (by omega)
  simp only [F150, F150_T, bne_self_eq_false, cond_false]
  exact this
theorem F23_self (k : Nat) (a0 a1 a2 a3 a4 a5 a6 : Int) (a7 : List (den (.int .u8))) (a8 a9 : Int) (a10 : List (den rng)) (a11 a12 : Int) (a13 : List (den (.int .u8))) (a14 : List (den erl)) (a15 a16 a17 : Bool) (a18 a19 a20 a21 a22 a23 : Int) (h : shortE 1048576 a7 a10 a13 a14) (hk : 1048576 < k) : F23 k a0 a1 a2 a3 a4 a5 a6 a7 a8 a9 a10 a11 a12 a13 a14 a15 a16 a17 a18 a19 a20 a21 a22 a23 a0 a1 a2 a3 a4 a5 a6 a7 a8 a9 a10 a11 a12 a13 a14 a15 a16 a17 a18 a19 a20 a21 a22 a23 = some true := by
  obtain ⟨h7, h10, h13, h14⟩ := h
  simp only [F23, F23_T, F88, F88_T, F89, F89_T, F90, F42_self k a7 (by omega) (by omega), F42_self k a13 (by omega) (by omega), F70_self k a10 (by omega) (by omega),
    F150_self k a14 (by omega) (by omega), bne_self_eq_false, beq_self_eq_true, Bool.not_true, cond_false, Option.bind_some]
def gE (x : Int) (a : den erl) : den erl := (x, IntKind.u8.wrap (x + 1))
theorem F151_eq (k : Nat) (l : erL) (x : Int) (hl : l.length ≤ 4194304) (hk : l.length < k) (h0 : 0 ≤ x) (hB : x + 2 * (l.length : Int) ≤ 1099511627776) :
    F151 k l x = some (x + 2 * (l.length : Int), marks gE (fun _ => 2) x l) := by
  have := markLoop 1099511627776 l.length (fun n y j m => F151_l0 k l x n y j m) gE (fun _ => 2) (fun x m => (x, m)) (fun _ => by decide)
    (fun n y j m h hN h0 hB => by
      simp only [F151_l0, F151_l0_T, List.length_set, Int.toNat_natCast]
      rw [up1 j (by omega), i64_in (y + 1) (by omega), i64_in (y + 1 + 1) (by omega), List.set_set]
      rw [decide_eq_true (by omega : ((j : Nat) : Int) < (m.length : Nat)), decide_eq_true (by omega : (0 : Int) ≤ (j : Nat))]
      rw [atI_get (m.set j (y, (atI m (j : Int)).2)) j (by simpa using h)]
      simp only [List.getElem_set_self, cond_true]
      rw [Int.add_assoc]; rfl)
    (fun n x m => by simp [F151_l0, F151_l0_T]) k x [] l (by simp) hk h0 (by rw [sumS_const]; exact hB)
  rw [sumS_const] at this
  simp only [F151, F151_T]
  exact this
theorem F152_eq (k : Nat) (l : erL) (x : Int) (hl : l.length ≤ 4194304) (hk : l.length < k) (h0 : 0 ≤ x) (hB : x + 2 * (l.length : Int) ≤ 1099511627776) :
    F152 k (marks gE (fun _ => 2) x l) x = some (x + 2 * (l.length : Int)) := by
  have hlen := marks_len gE (fun _ => 2) x l
  have hsum := sumS_marks (g := gE) (s := fun _ => 2) (fun _ _ => rfl) x l
  rw [sumS_const 2 l] at hsum
  have hh := Helds_marks (t := fun x a => a = ((x, IntKind.u8.wrap (x + 1)) : Int × Int)) (g := gE) (s := fun _ => 2) (fun _ _ => rfl) (fun _ _ => rfl) x l
  generalize marks gE (fun _ => 2) x l = m at hlen hsum hh
  have := heldLoop 1099511627776 m (fun n y j => F152_l0 k m x n y j) (fun x a => a = ((x, IntKind.u8.wrap (x + 1)) : Int × Int)) (fun _ => 2) (fun x => x) (fun _ => by decide)
    (fun n y j h ht h0 hB => by
      simp only [F152_l0, F152_l0_T]
      rw [up1 j (by omega), i64_in (y + 1) (by omega), i64_in (y + 1 + 1) (by omega), atI_get m j h, ht]
      rw [decide_eq_true (by omega : ((j : Nat) : Int) < (m.length : Nat)), decide_eq_true (by omega : (0 : Int) ≤ (j : Nat))]
      simp only [bne_self_eq_false, cond_true, cond_false]
      rw [Int.add_assoc]; rfl)
    (fun n y => by simp [F152_l0, F152_l0_T]) k x 0 (Nat.zero_le _) (by omega) h0 (by rw [List.drop_zero, hsum]; exact hB) (by rw [List.drop_zero]; exact hh)
  rw [List.drop_zero, hsum] at this
  simp only [F152, F152_T]
  exact this
/-- the counters of an end's rows, one behind the other -/
def x1E (x : Int) (a7 : u8L) : Int := x + (a7.length : Int)
def x2E (x : Int) (a7 : u8L) (a10 : rgL) : Int := x1E x a7 + 2 * (a10.length : Int)
def x3E (x : Int) (a7 : u8L) (a10 : rgL) (a13 : u8L) : Int := x2E x a7 a10 + (a13.length : Int)
def x4E (x : Int) (a7 : u8L) (a10 : rgL) (a13 : u8L) (a14 : erL) : Int := x3E x a7 a10 a13 + 2 * (a14.length : Int)
theorem F25_eq (k : Nat) (a0 a1 a2 a3 a4 a5 a6 : Int) (a7 : List (den (.int .u8))) (a8 a9 : Int) (a10 : List (den rng)) (a11 a12 : Int) (a13 : List (den (.int .u8))) (a14 : List (den erl)) (a15 a16 a17 : Bool) (a18 a19 a20 a21 a22 a23 : Int) (x : Int) (h : shortE 1048576 a7 a10 a13 a14) (hk : 1048576 < k) (h0 : 0 ≤ x) (hx : x ≤ 1000000000) :
    F25 k a0 a1 a2 a3 a4 a5 a6 a7 a8 a9 a10 a11 a12 a13 a14 a15 a16 a17 a18 a19 a20 a21 a22 a23 x = some (x4E x a7 a10 a13 a14, marks gB (fun _ => 1) x a7, marks gR (fun _ => 2) (x1E x a7) a10, marks gB (fun _ => 1) (x2E x a7 a10) a13, marks gE (fun _ => 2) (x3E x a7 a10 a13) a14) := by
  obtain ⟨h7, h10, h13, h14⟩ := h
  unfold F25 F25_T F91 F92 x4E x3E x2E x1E
  rw [F43_eq k a7 x (by omega) h0 (by omega)]
  simp only [Option.bind_some]
  rw [F71_eq k a10 _ (by omega) (by omega) (by omega)]
  simp only [Option.bind_some]
  rw [F43_eq k a13 _ (by omega) (by omega) (by omega)]
  simp only [Option.bind_some]
  rw [F151_eq k a14 _ (by omega) (by omega) (by omega) (by omega)]
  rfl
theorem F27_eq (k : Nat) (a0 a1 a2 a3 a4 a5 a6 : Int) (a7 : List (den (.int .u8))) (a8 a9 : Int) (a10 : List (den rng)) (a11 a12 : Int) (a13 : List (den (.int .u8))) (a14 : List (den erl)) (a15 a16 a17 : Bool) (a18 a19 a20 a21 a22 a23 : Int) (x : Int) (h : shortE 1048576 a7 a10 a13 a14) (hk : 1048576 < k) (h0 : 0 ≤ x) (hx : x ≤ 1000000000) :
    F27 k a0 a1 a2 a3 a4 a5 a6 (marks gB (fun _ => 1) x a7) a8 a9 (marks gR (fun _ => 2) (x1E x a7) a10) a11 a12 (marks gB (fun _ => 1) (x2E x a7 a10) a13) (marks gE (fun _ => 2) (x3E x a7 a10 a13) a14) a15 a16 a17 a18 a19 a20 a21 a22 a23 x = some (x4E x a7 a10 a13 a14) := by
  obtain ⟨h7, h10, h13, h14⟩ := h
  unfold F27 F27_T F93 F93_T F94 F94_T x4E x3E x2E x1E
  rw [F73_eq k a7 x (by omega) h0 (by omega), Option.bind_some, decide_eq_false (by omega), cond_false]
  rw [F72_eq k a10 _ (by omega) (by omega) (by omega), Option.bind_some, decide_eq_false (by omega), cond_false, Option.bind_some, decide_eq_false (by omega), cond_false]
  rw [F73_eq k a13 _ (by omega) (by omega) (by omega), Option.bind_some, decide_eq_false (by omega), cond_false]
  rw [F152_eq k a14 _ (by omega) (by omega) (by omega) (by omega), Option.bind_some, decide_eq_false (by omega), cond_false, Option.bind_some, decide_eq_false (by omega), cond_false]
theorem x4E_bound (x : Int) (a7 : u8L) (a10 : rgL) (a13 : u8L) (a14 : erL) (h : shortE 1048576 a7 a10 a13 a14) (h0 : 0 ≤ x) : x ≤ x4E x a7 a10 a13 a14 ∧ x4E x a7 a10 a13 a14 ≤ x + 10000000 := by
  obtain ⟨h7, h10, h13, h14⟩ := h
  unfold x4E x3E x2E x1E
  omega
end Go.Proofs.Ytkkgcidigiokfaa.Gn
end
