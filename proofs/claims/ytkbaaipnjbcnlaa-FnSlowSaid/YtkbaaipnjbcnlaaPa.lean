/-
  What the functions that the laws reach answer. (A part of the proofs of this seat.)
-/
import Derived.Test.YtkbaaipnjbcnlaaGa
import Derived.Test.YtkbaaipnjbcnlaaRc

section
set_option linter.unusedVariables false
set_option linter.unusedSimpArgs false
/-
  Paces shared: the plain functions, in plain words.
-/
namespace Go.Proofs.Ytkbaaipnjbcnlaa.Gn
open Go.Rf Go.IntWalk

def inB (a b c : Int) : Bool := decide (b ≤ a) && decide (a ≤ c)
theorem F47_eq (k : Nat) (a b c : Int) : F47 k a b c = some (inB a b c) := by
  unfold F47 inB
  have : decide (a ≥ b) = decide (b ≤ a) := rfl
  rw [this]
  cases decide (b ≤ a) <;> rfl
theorem F49_eq (k : Nat) (a b c : Int) : F49 k a b c = some (inB a b c) := F47_eq k a b c
def okB (p : den pace) : Bool := inB p.1 1 64 && inB p.2.1 2 64 && inB p.2.2 0 (IntKind.i64.wrap (p.1 - 1))
theorem F46_eq (k : Nat) (p : den pace) : F46 k p.1 p.2.1 p.2.2 = some (okB p) := by
  unfold F46 okB
  rw [F47_eq, F47_eq, F47_eq]
  simp only [Option.bind_some]
  cases inB p.1 1 64 <;> cases inB p.2.1 2 64 <;> rfl
theorem F52_eq (k : Nat) (p : den pace) : F52 k p.1 p.2.1 p.2.2 = some (okB p) := F46_eq k p

/-- are these paces that share a way -/
def okAll (l : List (den pace)) : Bool := inB (l.length : Nat) 1 5 && l.all okB
theorem F16_eq (k : Nat) (l : List (den pace)) (hl : l.length < 2 ^ 60) (hk : l.length < k) : F16 k l = some (okAll l) := by
  have := scanLoop l (fun n (_ : Unit) j => F16_l0 k l n j) (fun _ _ a => cond (okB a) (.inl ()) (.inr false)) (fun _ => inB (l.length : Nat) 1 5)
    (fun n s j h => by
      simp only [F16_l0]
      rw [atI_get l j h, F46_eq, up1 j (by omega)]
      simp [h]
      cases okB l[j] <;> rfl)
    (fun n s => by simp [F16_l0, F47_eq]) k () 0 (Nat.zero_le _) (by omega)
  rw [scan_all, List.drop_zero] at this
  unfold okAll
  rw [Bool.and_comm]
  exact this
theorem F80_eq (k : Nat) (l : List (den pace)) (hl : l.length < 2 ^ 60) (hk : l.length < k) : ∃ r, F80 k l = some r ∧ (!(decide (r ≥ 0))) = l.all okB := by
  have := scanLoop l (fun n (_ : Unit) j => F80_l0 k l n j) (fun _ j a => cond (okB a) (.inl ()) (.inr (j : Int))) (fun _ => -1)
    (fun n s j h => by
      simp only [F80_l0, F51]
      rw [atI_get l j h, F52_eq, up1 j (by omega)]
      simp [h]
      cases okB l[j] <;> rfl)
    (fun n s => by simp [F80_l0]) k () 0 (Nat.zero_le _) (by omega)
  rw [List.drop_zero] at this
  refine ⟨_, this, ?_⟩
  have : ∀ (r : List (den pace)) (j : Nat), (!(decide (scan (fun (_ : Unit) j a => cond (okB a) (.inl ()) (.inr (j : Int))) (fun _ => (-1 : Int)) () j r ≥ 0))) = r.all okB := by
    intro r
    induction r with
    | nil => intro j; rfl
    | cons a r ih =>
      intro j
      rw [scan, List.all_cons]
      cases okB a with
      | true => simpa using ih (j + 1)
      | false => simp
  exact this l 0
theorem F18_eq (k : Nat) (l : List (den pace)) (hl : l.length < 2 ^ 60) (hk : l.length < k) : F18 k l = some (okAll l) := by
  unfold F18 okAll
  rw [F49_eq, Option.bind_some]
  cases inB (l.length : Nat) 1 5 with
  | false => rfl
  | true =>
    obtain ⟨r, h1, h2⟩ := F80_eq k l hl hk
    simp only [cond_true, F50, h1, Option.bind_some, h2, Bool.true_and]
theorem F53_self (k : Nat) (p : den pace) : F53 k p.1 p.2.1 p.2.2 p.1 p.2.1 p.2.2 = some true := by simp [F53]
theorem F19_self (k : Nat) (l : List (den pace)) (hl : l.length < 2 ^ 60) (hk : l.length < k) : F19 k l l = some true := by
  have := foldLoop l (fun n (_ : Unit) j => F19_l0 k l l n j) (fun s _ => s) (fun _ => true)
    (fun n s j h => by
      simp only [F19_l0]
      rw [atI_get l j h, F53_self, up1 j (by omega)]
      simp [h])
    (fun n s => by simp [F19_l0]) k () 0 (Nat.zero_le _) (by omega)
  unfold F19
  simp only [bne_self_eq_false, cond_false]
  exact this
theorem F17_loop (k : Nat) (l : List (den pace)) (hl : l.length < 2 ^ 60) : ∀ (n j : Nat) (m : List (den pace)), j ≤ l.length → l.length - j < n → m.length = l.length → m.take j = l.take j → F17_l0 k l n (j : Int) m = some l
  | 0, j, m, _, h, _, _ => by omega
  | n + 1, j, m, hj, h, hm, ht => by
    rw [F17_l0]
    rcases Nat.lt_or_ge j l.length with hlt | hge
    · rw [up1 j (by omega), atI_get l j hlt, F48]
      simp only [Option.bind_some]
      rw [decide_eq_true (by omega : ((j : Nat) : Int) < (l.length : Nat)), decide_eq_true (by omega : (0 : Int) ≤ (j : Nat)), decide_eq_true (by omega : ((j : Nat) : Int) < (m.length : Nat))]
      simp only [cond_true]
      refine F17_loop k l hl n (j + 1) _ hlt (by omega) (by simpa using hm) ?_
      rw [Int.toNat_natCast, List.take_add_one, List.take_add_one]
      simp only [List.getElem?_set]
      rw [if_pos trivial, if_pos (by omega), List.getElem?_eq_getElem hlt]
      congr 1
      rw [List.take_set_of_le (Nat.le_refl _)]
      exact ht
    · rw [decide_eq_false (by omega : ¬ ((j : Nat) : Int) < (l.length : Nat))]
      simp only [cond_false]
      rw [List.take_of_length_le (by omega), List.take_of_length_le (by omega)] at ht
      rw [ht]
theorem F17_eq (k : Nat) (l : List (den pace)) (hl : l.length < 2 ^ 42) (hk : l.length < k) : F17 k l = some l := by
  unfold F17
  rw [decide_eq_true (by omega : (0 : Int) ≤ ((l.length : Nat) : Int)), decide_eq_true rfl, decide_eq_true (by omega : ((l.length : Nat) : Int) * (24 : Nat) ≤ 140737488355328)]
  exact F17_loop k l (by omega) k 0 _ (Nat.zero_le _) (by omega) (by simp) (by simp)
theorem F15_eq (k : Nat) (l : List (den pace)) (hl : l.length ≤ maxLen) : F15 k l 1048576 = some (if l.length ≤ 1048576 then 1048576 - (l.length : Int) else -1) := by
  unfold F15
  have hm : maxLen = 9223372036854775807 := rfl
  rw [hm] at hl
  rw [i64_in _ (by omega)]
  by_cases h : l.length ≤ 1048576
  · rw [decide_eq_false (by omega), if_pos h]; rfl
  · rw [decide_eq_true (by omega), if_neg h]; rfl

def sumW (s : Int) (l : List (den pace)) : Int := l.foldl (fun s p => IntKind.i64.wrap (s + p.1)) s
theorem F22_eq (k : Nat) (l : List (den pace)) (hl : l.length < 2 ^ 60) (hk : l.length < k) : F22 k l = some (cond (okAll l) (sumW 0 l) (-1)) := by
  have := foldLoop l (fun n (s : Int) j => F22_l0 k l n s j) (fun s p => IntKind.i64.wrap (s + p.1)) (fun s => s)
    (fun n s j h => by
      simp only [F22_l0]
      rw [atI_get l j h, up1 j (by omega)]
      simp [h])
    (fun n s => by simp [F22_l0]) k 0 0 (Nat.zero_le _) (by omega)
  unfold F22
  rw [F16_eq k l hl hk]
  simp only [Option.bind_some]
  cases okAll l with
  | false => rfl
  | true => exact this
theorem F54_eq (k : Nat) (l : List (den pace)) (hl : l.length < 2 ^ 60) (hk : l.length < k) : F54 k l = some (sumW 0 l) := by
  have := foldLoop l (fun n (s : Int) j => F54_l0 k l n s j) (fun s p => IntKind.i64.wrap (s + p.1)) (fun s => s)
    (fun n s j h => by
      simp only [F54_l0]
      rw [atI_get l j h, up1 j (by omega)]
      simp [h])
    (fun n s => by simp [F54_l0]) k 0 0 (Nat.zero_le _) (by omega)
  exact this
theorem F23_eq (k : Nat) (l : List (den pace)) (hl : l.length < 2 ^ 60) (hk : l.length < k) : F23 k l = some (cond (okAll l) (sumW 0 l) (-1)) := by
  unfold F23
  rw [F18_eq k l hl hk, F54_eq k l hl hk]
  cases okAll l <;> rfl
theorem F5_true (l : List (den pace)) (hl : l.length ≤ maxLen) : F5 (l.length + 1) l = some true := by
  unfold F5
  rw [F15_eq _ l hl, Option.bind_some]
  by_cases h : l.length ≤ 1048576
  · rw [if_pos h, decide_eq_false (by omega), cond_false, F17_eq _ l (by omega) (by omega)]
    simp only [Option.bind_some]
    rw [F22_eq _ l (by omega) (by omega), F23_eq _ l (by omega) (by omega), Option.bind_some, Option.bind_some, F19_self _ l (by omega) (by omega)]
    simp
  · rw [if_neg h]; rfl

def farG (s : Int × Int) (p : den pace) : Int × Int := (if p.1 < s.1 then p.1 else s.1, if s.2 < p.1 then p.1 else s.2)
theorem F20_loop (k : Nat) (l : List (den pace)) (hl : l.length < 2 ^ 60) : ∀ n s j, j ≤ l.length → l.length - j < n → F20_l0 k l n s.1 s.2 (j : Int) = some (IntKind.i64.wrap (((l.drop j).foldl farG s).2 - ((l.drop j).foldl farG s).1)) :=
  foldLoop l (fun n (s : Int × Int) j => F20_l0 k l n s.1 s.2 j) farG (fun s => IntKind.i64.wrap (s.2 - s.1))
    (fun n s j h => by
      simp only [F20_l0]
      rw [atI_get l j h, up1 j (by omega)]
      simp [h, farG])
    (fun n s => by simp [F20_l0])
theorem F21_loop (k : Nat) (l : List (den pace)) (hl : l.length < 2 ^ 60) : ∀ n s j, j ≤ l.length → l.length - j < n → F21_l0 k l n s.1 s.2 (j : Int) = some (IntKind.i64.wrap (((l.drop j).foldl farG s).2 - ((l.drop j).foldl farG s).1)) :=
  foldLoop l (fun n (s : Int × Int) j => F21_l0 k l n s.1 s.2 j) farG (fun s => IntKind.i64.wrap (s.2 - s.1))
    (fun n s j h => by
      simp only [F21_l0]
      rw [atI_get l j h, up1 j (by omega)]
      simp [h, farG])
    (fun n s => by simp [F21_l0])
theorem okB_win {p : den pace} (h : okB p = true) : @LE.le Int _ 1 p.1 ∧ @LE.le Int _ p.1 64 := by
  unfold okB inB at h
  simp only [Bool.and_eq_true, decide_eq_true_eq] at h
  exact h.1.1
theorem mn64 (x : Int) (h : x ≤ 64) : (if x < 64 then x else 64) = x := by split <;> omega
theorem mx0 (x : Int) (h : 1 ≤ x) : (if 0 < x then x else 0) = x := by split <;> omega
theorem far_eq (k : Nat) (l : List (den pace)) (hl : l.length < 2 ^ 60) (hk : l.length < k) : ∃ r, F20 k l = some r ∧ F21 k l = some r := by
  unfold F20 F21
  rw [F16_eq k l hl hk, F18_eq k l hl hk]
  simp only [Option.bind_some]
  cases hok : okAll l with
  | false => exact ⟨_, rfl, rfl⟩
  | true =>
    simp only [Bool.not_true, cond_false]
    have h1 := F20_loop k l hl k (64, 0) 0 (Nat.zero_le _) (by omega)
    have h2 := F21_loop k l hl k ((atI l 0).1, (atI l 0).1) 0 (Nat.zero_le _) (by omega)
    unfold okAll at hok
    rw [Bool.and_eq_true] at hok
    cases l with
    | nil => exact absurd hok.1 (by decide)
    | cons p r =>
      have hp : okB p = true := by have := hok.2; rw [List.all_cons, Bool.and_eq_true] at this; exact this.1
      obtain ⟨hp1, hp2⟩ := okB_win hp
      have e1 : farG (64, 0) p = (p.1, p.1) := by
        unfold farG
        simp only
        refine Prod.ext ?_ ?_
        · exact mn64 p.1 hp2
        · exact mx0 p.1 hp1
      have e2 : farG (p.1, p.1) p = (p.1, p.1) := by
        unfold farG
        refine Prod.ext ?_ ?_ <;> simp only <;> split <;> rfl
      have h0 : (atI (p :: r) 0).1 = p.1 := rfl
      rw [h0] at h2 ⊢
      simp only [List.drop_zero, List.foldl_cons, e1, e2] at h1 h2
      rw [decide_eq_true (by simp : (0 : Int) < (((p :: r).length : Nat) : Int))]
      exact ⟨_, h1, h2⟩
theorem F4_true (l : List (den pace)) (hl : l.length ≤ maxLen) : F4 (l.length + 1) l = some true := by
  unfold F4
  rw [F15_eq _ l hl, Option.bind_some]
  by_cases h : l.length ≤ 1048576
  · rw [if_pos h, decide_eq_false (by omega), cond_false, F17_eq _ l (by omega) (by omega)]
    simp only [Option.bind_some]
    obtain ⟨r, h1, h2⟩ := far_eq (l.length + 1) l (by omega) (by omega)
    rw [h1, h2, Option.bind_some, Option.bind_some, F19_self _ l (by omega) (by omega)]
    simp
  · rw [if_neg h]; rfl
theorem pure4 (l : List (den pace)) (hw : Wf (.sl pace) l) (_ : l.length * 24 ≤ 140737488351232) :
    ∃ k, (∀ l, Contract Try.prog 4 [.one (.l (.s .ro pace l))] ⟨F4 k l, fun r => (.one (.v (.bool r)), [])⟩) ∧ F4 k l = some true :=
  ⟨l.length + 1, fun l => F4_con _ l, F4_true l hw.1⟩
theorem pure5 (l : List (den pace)) (hw : Wf (.sl pace) l) (_ : l.length * 24 ≤ 140737488351232) :
    ∃ k, (∀ l, Contract Try.prog 5 [.one (.l (.s .ro pace l))] ⟨F5 k l, fun r => (.one (.v (.bool r)), [])⟩) ∧ F5 k l = some true :=
  ⟨l.length + 1, fun l => F5_con _ l, F5_true l hw.1⟩
end Go.Proofs.Ytkbaaipnjbcnlaa.Gn
end

section
set_option linter.unusedVariables false
set_option linter.unusedSimpArgs false
/-
  Rounds of those that share a way: the plain functions, in plain words.
-/
namespace Go.Proofs.Ytkbaaipnjbcnlaa.Gn
open Go.Rf Go.IntWalk

/-! ### a pace -/
def heardP (p : den pace) : den pace :=
  if okB p then
    (if p.1 < p.2.1 then (IntKind.i64.wrap (p.1 + 1), p.2.1, 0)
     else if IntKind.i64.wrap (p.2.2 + 1) < p.1 then (p.1, p.2.1, IntKind.i64.wrap (p.2.2 + 1))
     else ((if 64 < IntKind.i64.wrap (p.1 + 1) then 64 else IntKind.i64.wrap (p.1 + 1)), p.2.1, 0))
  else (0, 0, 0)
def lostP (p : den pace) : den pace :=
  if okB p then ((if IntKind.i64.wrap (p.1.tdiv 2) < 2 then 2 else IntKind.i64.wrap (p.1.tdiv 2)), (if IntKind.i64.wrap (p.1.tdiv 2) < 2 then 2 else IntKind.i64.wrap (p.1.tdiv 2)), 0) else (0, 0, 0)
theorem F60_eq (k : Nat) (p : den pace) : F60 k p.1 p.2.1 p.2.2 = some (heardP p) := by
  unfold F60 heardP
  rw [F46_eq, Option.bind_some]
  cases okB p with
  | false => rfl
  | true =>
    simp only [Bool.not_true, cond_false, if_true]
    by_cases h1 : p.1 < p.2.1
    · rw [decide_eq_true h1, if_pos h1]; rfl
    · rw [decide_eq_false h1, if_neg h1, cond_false]
      by_cases h2 : IntKind.i64.wrap (p.2.2 + 1) < p.1
      · rw [decide_eq_true h2, if_pos h2]; rfl
      · rw [decide_eq_false h2, if_neg h2]; rfl
theorem min_flip (a b : Int) : (if a < b then a else b) = if b < a then b else a := by
  split <;> split <;> omega
theorem F85_eq (k : Nat) (p : den pace) : F85 k p.1 p.2.1 p.2.2 = some (heardP p) := by
  rw [← F60_eq k p]
  unfold F85 F60
  rw [F46_eq, F52_eq]
  rw [min_flip]
theorem max_flip (a b : Int) : (if b < a then a else b) = if a < b then b else a := by
  split <;> split <;> omega
theorem F61_eq (k : Nat) (p : den pace) : F61 k p.1 p.2.1 p.2.2 = some (lostP p) := by
  unfold F61 lostP
  rw [F46_eq, Option.bind_some]
  cases okB p <;> rfl
theorem F84_eq (k : Nat) (p : den pace) : F84 k p.1 p.2.1 p.2.2 = some (lostP p) := by
  rw [← F61_eq k p]
  unfold F84 F61
  rw [F46_eq, F52_eq]
  rw [max_flip]

theorem okB_iff (a b c : Int) : okB (a, b, c) = true ↔ (1 ≤ a ∧ a ≤ 64) ∧ (2 ≤ b ∧ b ≤ 64) ∧ (0 ≤ c ∧ c ≤ a - 1) := by
  unfold okB inB
  simp only [Bool.and_eq_true, decide_eq_true_eq]
  constructor
  · rintro ⟨⟨h1, h2⟩, h3⟩
    rw [i64_in _ (by omega)] at h3
    exact ⟨h1, h2, h3⟩
  · rintro ⟨h1, h2, h3⟩
    rw [i64_in _ (by omega)]
    exact ⟨⟨h1, h2⟩, h3⟩
theorem heard_ok' (a b c : Int) (h : (1 ≤ a ∧ a ≤ 64) ∧ (2 ≤ b ∧ b ≤ 64) ∧ (0 ≤ c ∧ c ≤ a - 1)) :
    okB (if a < b then (IntKind.i64.wrap (a + 1), b, 0)
     else if IntKind.i64.wrap (c + 1) < a then (a, b, IntKind.i64.wrap (c + 1))
     else ((if 64 < IntKind.i64.wrap (a + 1) then 64 else IntKind.i64.wrap (a + 1)), b, 0)) = true := by
  rw [i64_in (a + 1) (by omega), i64_in (c + 1) (by omega)]
  split
  · exact (okB_iff _ _ _).2 (by omega)
  · split
    · exact (okB_iff _ _ _).2 (by omega)
    · split
      · exact (okB_iff _ _ _).2 (by omega)
      · exact (okB_iff _ _ _).2 (by omega)
theorem heardP_ok (p : den pace) (h : okB p = true) : okB (heardP p) = true := by
  obtain ⟨a, b, c⟩ := p
  unfold heardP
  rw [if_pos h]
  exact heard_ok' a b c ((okB_iff a b c).1 h)
theorem lost_ok' (a b c : Int) (h : (1 ≤ a ∧ a ≤ 64) ∧ (2 ≤ b ∧ b ≤ 64) ∧ (0 ≤ c ∧ c ≤ a - 1)) :
    okB ((if IntKind.i64.wrap (a.tdiv 2) < 2 then 2 else IntKind.i64.wrap (a.tdiv 2)), (if IntKind.i64.wrap (a.tdiv 2) < 2 then 2 else IntKind.i64.wrap (a.tdiv 2)), 0) = true := by
  have hd : a.tdiv 2 = a / 2 := Int.tdiv_eq_ediv_of_nonneg (by omega)
  rw [hd, i64_in (a / 2) (by omega), okB_iff]
  split <;> omega
theorem lostP_ok (p : den pace) (h : okB p = true) : okB (lostP p) = true := by
  obtain ⟨a, b, c⟩ := p
  unfold lostP
  rw [if_pos h]
  exact lost_ok' a b c ((okB_iff a b c).1 h)

def iter {α : Type} (f : α → α) : Nat → α → α
  | 0, x => x
  | n + 1, x => iter f n (f x)
theorem iter_ok (n : Nat) (p : den pace) (h : okB p = true) : okB (iter heardP n p) = true := by
  induction n generalizing p with
  | zero => exact h
  | succ n ih => exact ih _ (heardP_ok p h)
/-- a pace, a round later -/
def stepP (fine : Bool) (p : den pace) : den pace := cond fine (iter heardP (Int.toNat p.1) p) (lostP p)
theorem stepP_ok (f : Bool) (p : den pace) (h : okB p = true) : okB (stepP f p) = true := by
  cases f
  · exact lostP_ok p h
  · exact iter_ok _ p h

/-! ### a round -/
theorem F30_l2_eq (k : Nat) (l : List (den pace)) (a : Int) (f : Bool) (i : Int) (m : List (den pace)) : ∀ (n c : Nat) (p : den pace), c < n → c < 1000 →
    F30_l2 k l a n f i (c : Int) m p.1 p.2.1 p.2.2 = some (f, i, 0, m, (iter heardP c p).1, (iter heardP c p).2.1, (iter heardP c p).2.2)
  | 0, c, p, h, _ => by omega
  | n + 1, 0, p, h, _ => by
    rw [F30_l2]
    rfl
  | n + 1, c + 1, p, h, hc => by
    rw [F30_l2, F60_eq, Option.bind_some]
    rw [decide_eq_true (by omega : ((c + 1 : Nat) : Int) > 0), cond_true]
    have : IntKind.i64.wrap (((c + 1 : Nat) : Int) - 1) = (c : Int) := by rw [i64_in _ (by omega)]; omega
    rw [this]
    exact F30_l2_eq k l a f i m n c (heardP p) (by omega) (by omega)

theorem F30_l0_eq (k : Nat) (hk : 100 ≤ k) (l : List (den pace)) (hl : l.length ≤ 5) (hok : l.all okB = true) (a : Int) (f : Bool) : ∀ (n j : Nat) (m : List (den pace)), j ≤ l.length → l.length - j < n → m.length ≤ j →
    F30_l0 k l a n f (j : Int) m = some (m ++ (l.drop j).map (stepP f), f)
  | 0, j, m, _, h, _ => by omega
  | n + 1, j, m, hj, h, hm => by
    rw [F30_l0]
    rcases Nat.lt_or_ge j l.length with hlt | hge
    · have hp : okB l[j] = true := List.all_eq_true.1 hok _ (List.getElem_mem hlt)
      have hw := okB_win hp
      rw [decide_eq_true (by omega : ((j : Nat) : Int) < (l.length : Nat)), decide_eq_true (by omega : (0 : Int) ≤ (j : Nat))]
      simp only [cond_true]
      rw [atI_get l j hlt, List.drop_eq_getElem_cons hlt, List.map_cons]
      have hdec : decide ((m.length + [stepP f l[j]].length) * 24 ≤ 140737488355328) = true := by simp; omega
      cases f with
      | true =>
        simp only [cond_true]
        have hc : ((Int.toNat l[j].1 : Nat) : Int) = l[j].1 := Int.toNat_of_nonneg (by have := hw.1; exact Int.le_trans (by decide) this)
        have hb : Int.toNat l[j].1 ≤ 64 := by have h2 := hw.2; exact Int.toNat_le.2 h2
        have := F30_l2_eq k l a true (j : Int) m k (Int.toNat l[j].1) l[j] (by omega) (by omega)
        rw [hc] at this
        rw [this, Option.bind_some]
        simp only
        rw [show decide ((m.length + [((iter heardP (Int.toNat l[j].1) l[j]).1, (iter heardP (Int.toNat l[j].1) l[j]).2.1, (iter heardP (Int.toNat l[j].1) l[j]).2.2)].length) * 24 ≤ 140737488355328) = true from hdec, cond_true, up1 j (by omega)]
        have ih := F30_l0_eq k hk l hl hok a true n (j + 1) (m ++ [stepP true l[j]]) hlt (by omega) (by simp; omega)
        rw [List.append_assoc] at ih
        exact ih
      | false =>
        simp only [cond_false]
        rw [F61_eq, Option.bind_some, show decide ((m.length + [lostP l[j]].length) * 24 ≤ 140737488355328) = true from hdec, cond_true, up1 j (by omega)]
        have ih := F30_l0_eq k hk l hl hok a false n (j + 1) (m ++ [stepP false l[j]]) hlt (by omega) (by simp; omega)
        rw [List.append_assoc] at ih
        exact ih
    · rw [decide_eq_false (by omega : ¬ ((j : Nat) : Int) < (l.length : Nat))]
      simp only [cond_false]
      rw [List.drop_eq_nil_of_le hge]
      simp

/-- a round of those that share a way -/
def stepL (l : List (den pace)) (a : Int) : List (den pace) × Bool := (l.map (stepP (decide (sumW 0 l ≤ a))), decide (sumW 0 l ≤ a))
theorem okAll_len {l : List (den pace)} (h : okAll l = true) : l.length ≤ 5 ∧ l.all okB = true := by
  unfold okAll inB at h
  simp only [Bool.and_eq_true, decide_eq_true_eq] at h
  exact ⟨by omega, h.2⟩
theorem okAll_step {l : List (den pace)} (h : okAll l = true) (a : Int) : okAll (stepL l a).1 = true := by
  unfold okAll at h ⊢
  rw [Bool.and_eq_true] at h ⊢
  refine ⟨by simpa [stepL] using h.1, ?_⟩
  simp only [stepL]
  rw [List.all_map]
  rw [List.all_eq_true]
  intro p hp
  exact stepP_ok _ p (List.all_eq_true.1 h.2 p hp)
theorem F30_ok (k : Nat) (hk : 100 ≤ k) (l : List (den pace)) (h : okAll l = true) (a : Int) : F30 k l a = some (cond (inB a 1 1000) (stepL l a) ([], false)) := by
  obtain ⟨h5, hok⟩ := okAll_len h
  unfold F30
  rw [F16_eq k l (by omega) (by omega), Option.bind_some, h, F47_eq, Option.bind_some]
  simp only [Bool.not_true, cond_false]
  cases inB a 1 1000 with
  | false => rfl
  | true =>
    simp only [Bool.not_true, cond_false]
    rw [F22_eq k l (by omega) (by omega), h]
    simp only [Option.bind_some, cond_true]
    have := F30_l0_eq k hk l h5 hok a (decide (sumW 0 l ≤ a)) k 0 [] (Nat.zero_le _) (by omega) (Nat.zero_le _)
    rw [List.drop_zero, List.nil_append] at this
    exact this
theorem F30_no (k : Nat) (l : List (den pace)) (hl : l.length < 2 ^ 60) (hk : l.length < k) (h : okAll l = false) (a : Int) : F30 k l a = some ([], false) := by
  unfold F30
  rw [F16_eq k l hl hk, Option.bind_some, h]
  rfl

theorem F59_l2_eq (k : Nat) (l : List (den pace)) (a : Int) (f : Bool) (q : Int) (w : Nat) (hw : w ≤ 64) (i : Nat) : ∀ (n c : Nat) (m : List (den pace)) (h : i < m.length), c ≤ w → w - c < n →
    F59_l2 k l a n f (i : Int) q (i : Int) (w : Int) (c : Int) m = some (f, (i : Int), q, (i : Int), (w : Int), (w : Int), m.set i (iter heardP (w - c) m[i]))
  | 0, c, m, h, _, hn => by omega
  | n + 1, c, m, h, hc, hn => by
    rw [F59_l2]
    rcases Nat.lt_or_ge c w with hlt | hge
    · rw [decide_eq_true (by omega : ((c : Nat) : Int) < (w : Nat)), decide_eq_true (by omega : (0 : Int) ≤ (i : Nat)), decide_eq_true (by omega : ((i : Nat) : Int) < (m.length : Nat))]
      simp only [cond_true]
      rw [atI_get m i h, F85_eq, Option.bind_some, up1 c (by omega), Int.toNat_natCast]
      have ih := F59_l2_eq k l a f q w hw i n (c + 1) (m.set i (heardP m[i])) (by simpa using h) hlt (by omega)
      rw [ih]
      simp only [List.getElem_set_self, List.set_set]
      rw [show w - c = (w - (c + 1)) + 1 by omega]
      rfl
    · have : c = w := by omega
      subst this
      rw [decide_eq_false (by omega : ¬ ((c : Nat) : Int) < (c : Nat)), cond_false]
      simp [iter]

theorem F59_l0_eq (k : Nat) (hk : 100 ≤ k) (l0 : List (den pace)) (a : Int) (f : Bool) (l : List (den pace)) (hl : l.length ≤ 5) (hok : l.all okB = true) : ∀ (n j : Nat) (m : List (den pace)), j ≤ l.length → l.length - j < n → m = (l.take j).map (stepP f) ++ l.drop j →
    F59_l0 k l0 a n f (l.length : Nat) (j : Int) m = some (l.map (stepP f), f)
  | 0, j, m, _, h, _ => by omega
  | n + 1, j, m, hj, h, hm => by
    have hml : m.length = l.length := by rw [hm]; simp; omega
    rw [F59_l0]
    rcases Nat.lt_or_ge j l.length with hlt | hge
    · have hp : okB l[j] = true := List.all_eq_true.1 hok _ (List.getElem_mem hlt)
      have hw := okB_win hp
      have hmj : m[j]'(by omega) = l[j] := by
        simp only [hm]
        rw [List.getElem_append_right (by simp; omega)]
        simp [Nat.min_eq_left hj]
      rw [decide_eq_true (by omega : ((j : Nat) : Int) < (l.length : Nat)), decide_eq_true (by omega : (0 : Int) ≤ (j : Nat)), decide_eq_true (by omega : ((j : Nat) : Int) < (m.length : Nat))]
      simp only [cond_true]
      rw [atI_get m j (by omega), hmj]
      have hset : m.set j (stepP f l[j]) = (l.take (j + 1)).map (stepP f) ++ l.drop (j + 1) := by
        rw [hm, List.set_append_right _ _ (by simp; omega)]
        simp only [List.length_map, List.length_take, Nat.min_eq_left hj, Nat.sub_self]
        rw [List.drop_eq_getElem_cons hlt, List.set_cons_zero, List.take_add_one, List.getElem?_eq_getElem hlt, List.map_append]
        simp only [Option.toList, List.map_cons, List.map_nil, List.append_assoc, List.singleton_append]
      cases f with
      | false =>
        simp only [Bool.not_false, cond_true]
        rw [F84_eq, Option.bind_some, up1 j (by omega), Int.toNat_natCast]
        exact F59_l0_eq k hk l0 a false l hl hok n (j + 1) _ hlt (by omega) hset
      | true =>
        simp only [Bool.not_true, cond_false]
        have hc : ((Int.toNat l[j].1 : Nat) : Int) = l[j].1 := Int.toNat_of_nonneg (by have := hw.1; exact Int.le_trans (by decide) this)
        have hb : Int.toNat l[j].1 ≤ 64 := by have h2 := hw.2; exact Int.toNat_le.2 h2
        have := F59_l2_eq k l0 a true (l.length : Nat) (Int.toNat l[j].1) hb j k 0 m (by omega) (Nat.zero_le _) (by omega)
        rw [hc, hmj] at this
        rw [show (0 : Int) = ((0 : Nat) : Int) from rfl, this, Option.bind_some]
        simp only [Nat.sub_zero]
        rw [up1 j (by omega)]
        exact F59_l0_eq k hk l0 a true l hl hok n (j + 1) _ hlt (by omega) hset
    · have : j = l.length := by omega
      subst this
      rw [decide_eq_false (by omega : ¬ ((l.length : Nat) : Int) < (l.length : Nat)), cond_false]
      rw [hm, List.take_length, List.drop_length, List.append_nil]

theorem F62_eq (k : Nat) (l : List (den pace)) (hl : l.length < 2 ^ 42) : F62 k l = some l := by
  unfold F62
  cases l with
  | nil => rfl
  | cons p r =>
    have h1 : ((((p :: r).length : Nat) : Int) == 0) = false := by simp; omega
    rw [h1, cond_false, decide_eq_true (by simp at hl ⊢; omega), cond_true]
    simp [F86]
    rw [decide_eq_true (by omega)]
    simp
theorem F59_ok (k : Nat) (hk : 100 ≤ k) (l : List (den pace)) (h : okAll l = true) (a : Int) : F59 k l a = some (stepL l a) := by
  obtain ⟨h5, hok⟩ := okAll_len h
  unfold F59
  rw [F54_eq k l (by omega) (by omega), Option.bind_some, F62_eq k l (by omega), Option.bind_some]
  exact F59_l0_eq k hk l a (decide (sumW 0 l ≤ a)) l h5 hok k 0 l (Nat.zero_le _) (by omega) (by simp)
theorem F29_ok (k : Nat) (hk : 100 ≤ k) (l : List (den pace)) (h : okAll l = true) (a : Int) : F29 k l a = some (cond (inB a 1 1000) (stepL l a) ([], false)) := by
  obtain ⟨h5, hok⟩ := okAll_len h
  unfold F29
  rw [F18_eq k l (by omega) (by omega), Option.bind_some, h, F49_eq, Option.bind_some]
  simp only [Bool.not_true, cond_false]
  cases inB a 1 1000 with
  | false => rfl
  | true =>
    simp only [Bool.not_true, cond_false]
    rw [F59_ok k hk l h]
    rfl
theorem F29_no (k : Nat) (l : List (den pace)) (hl : l.length < 2 ^ 60) (hk : l.length < k) (h : okAll l = false) (a : Int) : F29 k l a = some ([], false) := by
  unfold F29
  rw [F18_eq k l hl hk, Option.bind_some, h]
  rfl
theorem step_same (k : Nat) (hk : 100 ≤ k) (l : List (den pace)) (hl : l.length < 2 ^ 60) (hk2 : l.length < k) (a : Int) : ∃ r, F30 k l a = some r ∧ F29 k l a = some r ∧ r.1.length ≤ 5 := by
  cases h : okAll l with
  | false => exact ⟨_, F30_no k l hl hk2 h a, F29_no k l hl hk2 h a, Nat.zero_le _⟩
  | true =>
    refine ⟨_, F30_ok k hk l h a, F29_ok k hk l h a, ?_⟩
    cases inB a 1 1000 with
    | false => exact Nat.zero_le _
    | true => simp [stepL]; exact (okAll_len h).1

/-! ### marks -/
def markL : Int → List (den pace) → List (den pace)
  | _, [] => []
  | x, _ :: r => (x, x + 1, x + 2) :: markL (x + 3) r
theorem markL_len : ∀ (x : Int) (l : List (den pace)), (markL x l).length = l.length
  | _, [] => rfl
  | x, _ :: r => by simp [markL, markL_len (x + 3) r]
theorem atI_set {l : List (den pace)} {j : Nat} (h : j < l.length) (p : den pace) : atI (l.set j p) (j : Int) = p := by
  rw [atI_get _ j (by simpa using h)]
  simp
theorem take_set_succ {α : Type} {l : List α} {j : Nat} (h : j < l.length) (p : α) : (l.set j p).take (j + 1) = l.take j ++ [p] := by
  rw [List.take_add_one, List.take_set_of_le (Nat.le_refl _), List.getElem?_set_self h]
  rfl
theorem F31_l0_eq (k : Nat) (l0 : List (den pace)) (a : Int) : ∀ (n : Nat) (x : Int) (j : Nat) (m : List (den pace)), j ≤ m.length → m.length - j < n → 0 ≤ x → x + 3 * ((m.length - j : Nat) : Int) < 2 ^ 60 → m.length < 2 ^ 50 →
    F31_l0 k l0 a n x (j : Int) m = some (x + 3 * ((m.length - j : Nat) : Int), m.take j ++ markL x (m.drop j))
  | 0, x, j, m, _, h, _, _, _ => by omega
  | n + 1, x, j, m, hj, h, hx, hb, hm => by
    rw [F31_l0]
    rcases Nat.lt_or_ge j m.length with hlt | hge
    · have hlt1 : ∀ (p : den pace), j < (m.set j p).length := fun p => by simpa using hlt
      simp only [Int.toNat_natCast, List.set_set, atI_set hlt, List.length_set]
      rw [decide_eq_true (by omega : ((j : Nat) : Int) < (m.length : Nat)), decide_eq_true (by omega : (0 : Int) ≤ (j : Nat))]
      simp only [cond_true]
      rw [i64_in (x + 1) (by omega), i64_in (x + 1 + 1) (by omega), i64_in (x + 1 + 1 + 1) (by omega), up1 j (by omega)]
      have ih := F31_l0_eq k l0 a n (x + 1 + 1 + 1) (j + 1) (m.set j (x, x + 1, x + 1 + 1)) (by simp; omega) (by simp; omega) (by omega) (by simp; omega) (by simpa using hm)
      rw [ih]
      simp only [List.length_set]
      congr 2
      · omega
      · rw [List.drop_eq_getElem_cons hlt, markL, take_set_succ hlt, List.drop_set_of_lt (by omega), List.append_assoc]
        rw [show x + 1 + 1 + 1 = x + 3 by omega, show x + 1 + 1 = x + 2 by omega]
        rfl
    · have : j = m.length := by omega
      subst this
      rw [decide_eq_false (by omega : ¬ ((m.length : Nat) : Int) < (m.length : Nat)), cond_false]
      simp [markL]
theorem F31_eq (k : Nat) (m : List (den pace)) (hk : m.length < k) (hm : m.length < 2 ^ 50) : F31 k m 1 = some (1 + 3 * (m.length : Int), markL 1 m) := by
  have := F31_l0_eq k m 1 k 1 0 m (Nat.zero_le _) (by omega) (by omega) (by omega) hm
  unfold F31
  simpa using this
theorem F32_l0_eq (k : Nat) (l : List (den pace)) (a : Int) (hl : l.length < 2 ^ 50) : ∀ (n : Nat) (x : Int) (j : Nat) (r : List (den pace)), j ≤ l.length → l.length - j < n → 0 ≤ x → x + 3 * ((l.length - j : Nat) : Int) < 2 ^ 60 → l.drop j = markL x r →
    F32_l0 k l a n x (j : Int) = some (x + 3 * ((l.length - j : Nat) : Int))
  | 0, x, j, r, _, h, _, _, _ => by omega
  | n + 1, x, j, r, hj, h, hx, hb, hr => by
    rw [F32_l0]
    rcases Nat.lt_or_ge j l.length with hlt | hge
    · rw [List.drop_eq_getElem_cons hlt] at hr
      cases r with
      | nil => simp [markL] at hr; omega
      | cons p r =>
        simp only [markL, List.cons.injEq] at hr
        rw [decide_eq_true (by omega : ((j : Nat) : Int) < (l.length : Nat)), decide_eq_true (by omega : (0 : Int) ≤ (j : Nat))]
        rw [atI_get l j hlt, hr.1]
        rw [i64_in (x + 1) (by omega), i64_in (x + 1 + 1) (by omega), i64_in (x + 1 + 1 + 1) (by omega), up1 j (by omega)]
        have e : x + 1 + 1 = x + 2 := by omega
        simp only [cond_true, e, bne_self_eq_false, cond_false]
        rw [F32_l0_eq k l a hl n (x + 2 + 1) (j + 1) r hlt (by omega) (by omega) (by omega) (by rw [hr.2]; congr 1; omega)]
        congr 1
        omega
    · have : j = l.length := by omega
      subst this
      rw [decide_eq_false (by omega : ¬ ((l.length : Nat) : Int) < (l.length : Nat)), cond_false]
      simp
theorem F32_eq (k : Nat) (m : List (den pace)) (hk : m.length < k) (hm : m.length < 2 ^ 50) : F32 k (markL 1 m) 1 = some (1 + 3 * (m.length : Int)) := by
  have hl := markL_len 1 m
  have := F32_l0_eq k (markL 1 m) 1 (by omega) k 1 0 m (Nat.zero_le _) (by omega) (by omega) (by omega) rfl
  rw [hl] at this
  unfold F32
  simpa using this

theorem F10_true (l : List (den pace)) (hl : l.length ≤ maxLen) (a : Int) : F10 (l.length + 1000) l a = some true := by
  unfold F10
  rw [F15_eq _ l hl, Option.bind_some]
  by_cases h : l.length ≤ 1048576
  · rw [if_pos h, decide_eq_false (by omega), cond_false, F17_eq _ l (by omega) (by omega)]
    simp only [Option.bind_some]
    obtain ⟨r, h1, h2, h3⟩ := step_same (l.length + 1000) (by omega) l (by omega) (by omega) a
    rw [h1, h2]
    simp only [Option.bind_some]
    rw [F19_self _ r.1 (by omega) (by omega), F19_self _ l (by omega) (by omega), F31_eq _ l (by omega) (by omega), F31_eq _ r.1 (by omega) (by omega)]
    simp only [Option.bind_some]
    rw [F32_eq _ r.1 (by omega) (by omega)]
    simp only [Option.bind_some, Bool.not_true, cond_false, beq_self_eq_true, bne_self_eq_false]
    rw [decide_eq_false (by omega), decide_eq_false (by omega)]
    rfl
  · rw [if_neg h]; rfl
end Go.Proofs.Ytkbaaipnjbcnlaa.Gn
end

section
set_option linter.unusedVariables false
set_option linter.unusedSimpArgs false
/-
  Many rounds of those that share a way: the plain functions, in plain words.
-/
namespace Go.Proofs.Ytkbaaipnjbcnlaa.Gn
open Go.Rf Go.IntWalk
theorem run_loop (k : Nat) (hk : 100 ≤ k) (l l' : List (den pace)) (a : Int) (ha : inB a 1 1000 = true) (w : Nat) (hw : w ≤ 200) : ∀ (n j : Nat) (x : Int) (m : List (den pace)), j ≤ w → w - j < n → okAll m = true →
    ∃ r, F35_l0 k l a (w : Int) n x (j : Int) m = some r ∧ F36_l0 k l' a (w : Int) n x (j : Int) m = some r ∧ r.1.length ≤ 5
  | 0, j, x, m, _, h, _ => by omega
  | n + 1, j, x, m, hj, h, hm => by
    rw [F35_l0, F36_l0]
    rcases Nat.lt_or_ge j w with hlt | hge
    · rw [decide_eq_true (by omega : ((j : Nat) : Int) < (w : Nat))]
      simp only [cond_true]
      have h5 := (okAll_len hm).1
      rw [F30_ok k hk m hm, F59_ok k hk m hm, F54_eq k m (by omega) (by omega), F22_eq k m (by omega) (by omega), ha, hm, up1 j (by omega)]
      simp only [Option.bind_some, cond_true]
      cases (stepL m a).2 with
      | true => exact run_loop k hk l l' a ha w hw n (j + 1) _ _ hlt (by omega) (okAll_step hm a)
      | false => exact run_loop k hk l l' a ha w hw n (j + 1) _ _ hlt (by omega) (okAll_step hm a)
    · rw [decide_eq_false (by omega : ¬ ((j : Nat) : Int) < (w : Nat))]
      exact ⟨_, rfl, rfl, (okAll_len hm).1⟩
theorem run_same (k : Nat) (hk : 300 ≤ k) (l : List (den pace)) (hl : l.length < 2 ^ 40) (hk2 : l.length < k) (a b : Int) : ∃ r, F35 k l a b = some r ∧ F36 k l a b = some r ∧ r.1.length ≤ 5 := by
  unfold F35 F36
  rw [F16_eq k l (by omega) hk2, F18_eq k l (by omega) hk2, F47_eq, F47_eq, F49_eq, F49_eq, F62_eq k l (by omega)]
  simp only [Option.bind_some]
  cases hok : okAll l with
  | false => exact ⟨_, rfl, rfl, Nat.zero_le _⟩
  | true =>
    simp only [Bool.not_true, cond_false]
    cases ha : inB a 1 1000 with
    | false => exact ⟨_, rfl, rfl, Nat.zero_le _⟩
    | true =>
      simp only [Bool.not_true, cond_false]
      cases hb : inB b 0 200 with
      | false => exact ⟨_, rfl, rfl, Nat.zero_le _⟩
      | true =>
        simp only [Bool.not_true, cond_false]
        rw [decide_eq_true (by simp; omega : (([] : List (den pace)).length + l.length) * 24 ≤ 140737488355328), cond_true, List.nil_append]
        unfold inB at hb
        simp only [Bool.and_eq_true, decide_eq_true_eq] at hb
        obtain ⟨w, rfl⟩ := Int.eq_ofNat_of_zero_le hb.1
        exact run_loop k (by omega) l l a ha w (by omega) k 0 0 l (Nat.zero_le _) (by omega) hok
theorem F12_true (l : List (den pace)) (hl : l.length ≤ maxLen) (a b : Int) : F12 (l.length + 1000) l a b = some true := by
  unfold F12
  rw [F15_eq _ l hl, Option.bind_some]
  by_cases h : l.length ≤ 1048576
  · rw [if_pos h, decide_eq_false (by omega), cond_false, F17_eq _ l (by omega) (by omega)]
    simp only [Option.bind_some]
    obtain ⟨r, h1, h2, h3⟩ := run_same (l.length + 1000) (by omega) l (by omega) (by omega) a b
    rw [h1, h2]
    simp only [Option.bind_some]
    rw [F19_self _ r.1 (by omega) (by omega), F19_self _ l (by omega) (by omega), F31_eq _ l (by omega) (by omega), F31_eq _ r.1 (by omega) (by omega)]
    simp only [Option.bind_some]
    rw [F32_eq _ r.1 (by omega) (by omega)]
    simp only [Option.bind_some, Bool.not_true, cond_false, beq_self_eq_true, bne_self_eq_false]
    rw [decide_eq_false (by omega), decide_eq_false (by omega)]
    rfl
  · rw [if_neg h]; rfl
end Go.Proofs.Ytkbaaipnjbcnlaa.Gn
namespace Go.Proofs.Ytkbaaipnjbcnlaa.Gn
open Go.Rf
theorem pure10 (l : List (den pace)) (hw : Wf (.sl pace) l) (_ : l.length * 24 ≤ 140737488351232) (a : Int) (_ : (Lit.int .i64 a).wf = true) :
    ∃ k, (∀ l a, Contract Try.prog 10 [.one (.l (.s .ro pace l)), .one (.l (.v (.int .i64 a)))] ⟨F10 k l a, fun r => (.one (.v (.bool r)), [])⟩) ∧ F10 k l a = some true :=
  ⟨l.length + 1000, fun l a => F10_con _ l a, F10_true l hw.1 a⟩
theorem pure12 (l : List (den pace)) (hw : Wf (.sl pace) l) (_ : l.length * 24 ≤ 140737488351232) (a : Int) (_ : (Lit.int .i64 a).wf = true) (b : Int) (_ : (Lit.int .i64 b).wf = true) :
    ∃ k, (∀ l a b, Contract Try.prog 12 [.one (.l (.s .ro pace l)), .one (.l (.v (.int .i64 a))), .one (.l (.v (.int .i64 b)))] ⟨F12 k l a b, fun r => (.one (.v (.bool r)), [])⟩) ∧ F12 k l a b = some true :=
  ⟨l.length + 1000, fun l a b => F12_con _ l a b, F12_true l hw.1 a b⟩
end Go.Proofs.Ytkbaaipnjbcnlaa.Gn
end

section
set_option linter.unusedVariables false
set_option linter.unusedSimpArgs false
/-
  Drawn paces: a reader's picks, a drawn row; and what is alive.
-/
namespace Go.Proofs.Ytkbaaipnjbcnlaa.Gn
open Go.Rf Go.IntWalk

abbrev u8s := List (den (.int .u8))
def BOk (b : u8s) : Prop := ∀ x ∈ b, @LE.le Int _ 0 x ∧ @LE.le Int _ x 255
theorem atI_mem {t : Ty} {l : List (den t)} {i : Int} (h0 : 0 ≤ i) (h1 : i < (l.length : Nat)) : atI l i ∈ l := by
  obtain ⟨j, rfl⟩ := Int.eq_ofNat_of_zero_le h0
  rw [atI_get l j (by omega)]
  exact List.getElem_mem _
theorem xor_bound (x y : Int) (hx : 0 ≤ x ∧ x < 2 ^ 50) (hy : 0 ≤ y ∧ y < 2 ^ 50) : 0 ≤ bitsOf .xor .i64 x y ∧ bitsOf .xor .i64 x y < 2 ^ 50 := by
  obtain ⟨a, rfl⟩ := Int.eq_ofNat_of_zero_le hx.1
  obtain ⟨b, rfl⟩ := Int.eq_ofNat_of_zero_le hy.1
  have ha : a < 2 ^ 50 := by omega
  have hb : b < 2 ^ 50 := by omega
  have h1 : (BitVec.ofInt 64 (a : Int) ^^^ BitVec.ofInt 64 (b : Int)).toNat = a ^^^ b := by
    rw [BitVec.toNat_xor]
    simp only [BitVec.ofInt_natCast, BitVec.toNat_ofNat]
    rw [Nat.mod_eq_of_lt (by omega), Nat.mod_eq_of_lt (by omega)]
  have h2 : a ^^^ b < 2 ^ 50 := Nat.xor_lt_two_pow ha hb
  have h3 : bitsOf .xor .i64 (a : Int) (b : Int) = ((a ^^^ b : Nat) : Int) := by
    show IntKind.i64.wrap (((BitVec.ofInt 64 (a : Int) ^^^ BitVec.ofInt 64 (b : Int)).toNat : Nat) : Int) = _
    rw [h1, i64_in _ (by omega)]
  rw [h3]
  omega

theorem F58_ok (k : Nat) (b : u8s) (hb : BOk b) (hl : b.length ≤ 2000) (p n : Int) (hp : 0 ≤ p) (hp2 : p < 2 ^ 30) : ∃ r, F58 k b p n = some (r, b, p + 1) ∧ 0 ≤ r ∧ (1 ≤ n → r < n) ∧ (n < 1 → r = 0) := by
  unfold F58
  rw [i64_in (p + 1) (by omega), show p + 1 - 1 = p by omega, i64_in p (by omega)]
  by_cases hn : n < 1
  · rw [decide_eq_true hn]; exact ⟨0, rfl, by omega, by omega, fun _ => rfl⟩
  · rw [decide_eq_false hn, cond_false]
    by_cases h0 : b.length = 0
    · have : (((b.length : Nat) : Int) == 0) = true := by simp [h0]
      rw [this]; exact ⟨0, rfl, by omega, by omega, fun _ => rfl⟩
    · have : (((b.length : Nat) : Int) == 0) = false := by simp [h0]
      rw [this, cond_false]
      have hpos : 0 < ((b.length : Nat) : Int) := by omega
      by_cases hlt : p < ((b.length : Nat) : Int)
      · rw [decide_eq_true hlt, decide_eq_true hp, decide_eq_false (by omega : ¬ n = 0)]
        simp only [cond_true, cond_false]
        have hm := hb _ (atI_mem hp hlt)
        rw [i64_in (atI b p) ⟨Int.le_trans (by decide) hm.1, Int.le_trans hm.2 (by decide)⟩]
        exact ⟨_, rfl, Int.tmod_nonneg _ hm.1, fun h => Int.tmod_lt_of_pos _ (by omega), by omega⟩
      · rw [decide_eq_false hlt, decide_eq_false (by omega : ¬ ((b.length : Nat) : Int) = 0)]
        simp only [cond_false]
        rw [i64_in (p * 7) (by omega), i64_in (p * 7 + 3) (by omega)]
        have m1 : 0 ≤ p.tmod ((b.length : Nat) : Int) := Int.tmod_nonneg _ hp
        have m2 : p.tmod ((b.length : Nat) : Int) < ((b.length : Nat) : Int) := Int.tmod_lt_of_pos _ hpos
        have m3 : 0 ≤ (p * 7 + 3).tmod ((b.length : Nat) : Int) := Int.tmod_nonneg _ (by omega)
        have m4 : (p * 7 + 3).tmod ((b.length : Nat) : Int) < ((b.length : Nat) : Int) := Int.tmod_lt_of_pos _ hpos
        have m5 : 0 ≤ p.tdiv ((b.length : Nat) : Int) := Int.tdiv_nonneg hp (by omega)
        have m6 : p.tdiv ((b.length : Nat) : Int) ≤ p := Int.tdiv_le_self _ hp
        rw [decide_eq_true m1, decide_eq_true m2, decide_eq_true m3, decide_eq_true m4, decide_eq_false (by omega : ¬ n = 0)]
        simp only [cond_true, cond_false]
        have g1 := hb _ (atI_mem m1 m2)
        have g2 := hb _ (atI_mem m3 m4)
        obtain ⟨x1, hx1⟩ : ∃ x : Int, x = atI b (p.tmod ((b.length : Nat) : Int)) := ⟨_, rfl⟩
        obtain ⟨x2, hx2⟩ : ∃ x : Int, x = atI b ((p * 7 + 3).tmod ((b.length : Nat) : Int)) := ⟨_, rfl⟩
        rw [← hx1] at g1 ⊢
        rw [← hx2] at g2 ⊢
        generalize p.tdiv ((b.length : Nat) : Int) = q at *
        have g1 : 0 ≤ x1 ∧ x1 ≤ 255 := g1
        have g2 : 0 ≤ x2 ∧ x2 ≤ 255 := g2
        rw [i64_in x1 (by omega), i64_in x2 (by omega), i64_in (x1 * 131) (by omega), i64_in (x2 * 1117) (by omega), i64_in (x1 * 131 + x2 * 1117) (by omega), i64_in (p * 29) (by omega), i64_in (x1 * 131 + x2 * 1117 + p * 29) (by omega),
          i64_in q (by omega), i64_in (q * 53) (by omega), i64_in (x1 * 131 + x2 * 1117 + p * 29 + q * 53) (by omega)]
        generalize hX : x1 * 131 + x2 * 1117 + p * 29 + q * 53 = X
        have hX1 : 0 ≤ X ∧ X < 2 ^ 50 := by omega
        have d1 : 0 ≤ X.tdiv 64 := Int.tdiv_nonneg hX1.1 (by omega)
        have d2 : X.tdiv 64 ≤ X := Int.tdiv_le_self _ hX1.1
        rw [i64_in (X.tdiv 64) (by omega)]
        have hxo := xor_bound X (X.tdiv 64) hX1 (by omega)
        exact ⟨_, rfl, Int.tmod_nonneg _ hxo.1, fun h => Int.tmod_lt_of_pos _ (by omega), by omega⟩

theorem F82_ok (k : Nat) (b : u8s) (hb : BOk b) (hl : b.length ≤ 2000) (p n : Int) (hp : 0 ≤ p) (hp2 : p < 2 ^ 30) : ∃ r p', F82 k b p n = some (r, b, p') ∧ p ≤ p' ∧ p' ≤ p + 1 := by
  unfold F82
  by_cases hn : n > 0
  · rw [decide_eq_true hn]
    obtain ⟨r, h, _⟩ := F58_ok k b hb hl p n hp hp2
    rw [cond_true, h]
    exact ⟨_, p + 1, rfl, by omega, by omega⟩
  · rw [decide_eq_false hn]
    exact ⟨_, p, rfl, by omega, by omega⟩
theorem F81_ok (k : Nat) (b : u8s) (hb : BOk b) (hl : b.length ≤ 2000) (p n : Int) (hp : 0 ≤ p) (hp2 : p + 6 < 2 ^ 30) : ∃ x y z p', F81 k b p n = some (x, y, z, b, p') ∧ p ≤ p' ∧ p' ≤ p + 6 := by
  unfold F81
  obtain ⟨r1, h1, _⟩ := F58_ok k b hb hl p 64 hp (by omega)
  rw [h1, Option.bind_some]
  obtain ⟨r2, h2, _⟩ := F58_ok k b hb hl (p + 1) 63 (by omega) (by omega)
  simp only
  rw [h2, Option.bind_some]
  obtain ⟨r3, h3, _⟩ := F58_ok k b hb hl (p + 1 + 1) (IntKind.i64.wrap (1 + r1)) (by omega) (by omega)
  simp only
  rw [h3, Option.bind_some]
  obtain ⟨r4, p4, h4, q1, q2⟩ := F82_ok k b hb hl (p + 1 + 1 + 1) n (by omega) (by omega)
  simp only
  rw [h4, Option.bind_some]
  cases r4 with
  | false => exact ⟨_, _, _, _, rfl, by simp only; omega, by simp only; omega⟩
  | true =>
    simp only [cond_true]
    obtain ⟨r5, h5, _⟩ := F58_ok k b hb hl p4 3 (by omega) (by omega)
    rw [h5, Option.bind_some]
    obtain ⟨r6, h6, _⟩ := F58_ok k b hb hl (p4 + 1) 2 (by omega) (by omega)
    simp only
    rw [h6]
    simp only [Option.bind_some]
    cases r5 == 0 with
    | true => exact ⟨_, _, _, _, rfl, by omega, by omega⟩
    | false =>
      simp only [cond_false]
      cases r5 == 1 with
      | true => exact ⟨_, _, _, _, rfl, by omega, by omega⟩
      | false => exact ⟨_, _, _, _, rfl, by omega, by omega⟩

theorem F55_loop (k : Nat) (b0 : u8s) (p0 a1 : Int) (b : u8s) (hb : BOk b) (hl : b.length ≤ 2000) : ∀ (n c : Nat) (p : Int) (m : List (den pace)), c < n → c ≤ 5 → 0 ≤ p → p + 6 * c < 2 ^ 29 → m.length + c ≤ 5 → 1 ≤ m.length + c →
    ∃ l p', F55_l0 k b0 p0 a1 n (c : Int) b p m = some (l, b, p') ∧ l.length ≤ 20 ∧ 0 ≤ p' ∧ p' ≤ p + 6 * c + 10
  | 0, c, p, m, h, _, _, _, _, _ => by omega
  | n + 1, 0, p, m, h, hc, hp, hp2, hm, hm1 => by
    rw [F55_l0]
    rw [decide_eq_false (by omega : ¬ ((0 : Nat) : Int) > 0), cond_false]
    obtain ⟨r4, p4, h4, q1, q2⟩ := F82_ok k b hb hl p a1 hp (by omega)
    rw [h4, Option.bind_some]
    cases r4 with
    | false => exact ⟨_, _, rfl, by omega, by simp only; omega, by simp only; omega⟩
    | true =>
      simp only [cond_true]
      obtain ⟨r5, h5, _⟩ := F58_ok k b hb hl p4 3 (by omega) (by omega)
      rw [h5, Option.bind_some]
      simp only
      cases r5 == 0 with
      | true => exact ⟨_, _, rfl, by simp, by omega, by omega⟩
      | false =>
        simp only [cond_false]
        cases r5 == 1 with
        | true =>
          simp only [cond_true]
          rw [decide_eq_true (by omega), cond_true, decide_eq_true (by simp; omega), cond_true]
          exact ⟨_, _, rfl, by simp; omega, by omega, by omega⟩
        | false =>
          simp only [cond_false]
          obtain ⟨x, y, z, p6, h6, q3, q4⟩ := F81_ok k b hb hl (p4 + 1) 1 (by omega) (by omega)
          rw [h6, Option.bind_some]
          simp only
          rw [decide_eq_true (by omega : (0 : Int) < ((m.length : Nat) : Int)), cond_true]
          exact ⟨_, _, rfl, by simp; omega, by omega, by omega⟩
  | n + 1, c + 1, p, m, h, hc, hp, hp2, hm, hm1 => by
    rw [F55_l0]
    rw [decide_eq_true (by omega : ((c + 1 : Nat) : Int) > 0), cond_true]
    obtain ⟨x, y, z, p6, h6, q3, q4⟩ := F81_ok k b hb hl p 0 (by omega) (by omega)
    rw [h6, Option.bind_some]
    simp only
    rw [decide_eq_true (by simp; omega), cond_true]
    have : IntKind.i64.wrap (((c + 1 : Nat) : Int) - 1) = (c : Int) := by rw [i64_in _ (by omega)]; omega
    rw [this]
    obtain ⟨l, p', e1, e2, e3, e4⟩ := F55_loop k b0 p0 a1 b hb hl n c p6 (m ++ [(x, y, z)]) (by omega) (by omega) (by omega) (by omega) (by simp; omega) (by simp; omega)
    exact ⟨l, p', e1, e2, e3, by omega⟩
theorem F55_ok (k : Nat) (hk : 100 ≤ k) (b : u8s) (hb : BOk b) (hl : b.length ≤ 2000) (p a1 : Int) (hp : 0 ≤ p) (hp2 : p < 2 ^ 20) : ∃ l p', F55 k b p a1 = some (l, b, p') ∧ l.length ≤ 20 ∧ 0 ≤ p' ∧ p' ≤ p + 100 := by
  unfold F55
  obtain ⟨r, h, h1, h2, _⟩ := F58_ok k b hb hl p 5 hp (by omega)
  rw [h, Option.bind_some]
  simp only
  have hr := h2 (by omega)
  rw [i64_in (1 + r) (by omega)]
  obtain ⟨c, hc⟩ := Int.eq_ofNat_of_zero_le (show 0 ≤ 1 + r by omega)
  rw [hc]
  obtain ⟨l, p', e1, e2, e3, e4⟩ := F55_loop k b p a1 b hb hl k c (p + 1) [] (by omega) (by omega) (by omega) (by omega) (by simp; omega) (by simp; omega)
  exact ⟨l, p', e1, e2, e3, by omega⟩
theorem F56_ok (k : Nat) (b : u8s) (hb : BOk b) : ∃ b', F56 k b = some (b', 0) ∧ BOk b' ∧ b'.length ≤ 2000 := by
  unfold F56
  by_cases h : ((b.length : Nat) : Int) > 2000
  · rw [decide_eq_true h, cond_true]
    rw [decide_eq_true (by omega : (2000 : Int) ≤ ((b.length : Nat) : Int))]
    exact ⟨_, rfl, fun x hx => hb x (List.mem_of_mem_take hx), by simp; omega⟩
  · rw [decide_eq_false h, cond_false]
    exact ⟨_, rfl, hb, by omega⟩
theorem BOk.of {b : u8s} (h : Wf (.sl (.int .u8)) b) : BOk b := fun x hx => by
  have := h.2 x hx
  unfold Wf Lit.wf at this
  simp only [Bool.and_eq_true, decide_eq_true_eq] at this
  exact this
theorem F24_ok (k : Nat) (hk : 100 ≤ k) (b : u8s) (hb : BOk b) : ∃ l, F24 k b = some l ∧ l.length ≤ 20 := by
  obtain ⟨b', h1, h2, h3⟩ := F56_ok k b hb
  obtain ⟨l, p', h4, h5, _⟩ := F55_ok k hk b' h2 h3 0 2 (by omega) (by omega)
  exact ⟨l, by unfold F24; rw [h1, Option.bind_some]; simp only; rw [h4]; rfl, h5⟩
theorem F26_ok (k : Nat) (hk : 100 ≤ k) (b : u8s) (hb : BOk b) : ∃ l, F26 k b = some l ∧ l.length ≤ 20 := by
  obtain ⟨b', h1, h2, h3⟩ := F56_ok k b hb
  obtain ⟨l, p', h4, h5, _⟩ := F55_ok k hk b' h2 h3 0 9 (by omega) (by omega)
  exact ⟨l, by unfold F26; rw [h1, Option.bind_some]; simp only; rw [h4]; rfl, h5⟩
theorem F27_ok (k : Nat) (hk : 100 ≤ k) (b : u8s) (hb : BOk b) : ∃ l, F27 k b = some l ∧ l.length ≤ 20 := F26_ok k hk b hb

theorem F25_true (k : Nat) (hk : 100 ≤ k) : F25 k = some true := by
  obtain ⟨n, rfl⟩ : ∃ n, k = n + 2 := ⟨k - 2, by omega⟩
  unfold F25 F57
  have h1 : inB 1 1 4 = true := by decide
  have h2 : inB 5 0 (IntKind.i64.wrap ((IntKind.i64.wrap (1 * 2 ^ (min (IntKind.i64.wrap (8 * 1)).toNat 64))) - 1)) = true := by decide
  have h3 : inB 256 0 (IntKind.i64.wrap ((IntKind.i64.wrap (1 * 2 ^ (min (IntKind.i64.wrap (8 * 1)).toNat 64))) - 1)) = false := by decide
  simp only [F49_eq, Option.bind_some, h1, h2, h3]
  rfl
theorem okAll_single {p : den pace} (h : okB p = true) : okAll [p] = true := by
  unfold okAll
  rw [List.all_cons, h]
  rfl
theorem F6_true (k : Nat) (hk : 100 ≤ k) (b : u8s) (hb : BOk b) : F6 k b = some true := by
  unfold F6
  by_cases h : ((b.length : Nat) : Int) > 1048576
  · rw [decide_eq_true h]; rfl
  · rw [decide_eq_false h, cond_false]
    obtain ⟨l, h1, h2⟩ := F24_ok k hk b hb
    rw [h1, Option.bind_some, F18_eq k l (by omega) (by omega), F16_eq k l (by omega) (by omega), F25_true k hk, F18_eq k [] (by simp) (by simp; omega), F18_eq k [(1, 2, 0)] (by simp) (by simp; omega)]
    simp only [Option.bind_some, beq_self_eq_true, Bool.not_true, cond_false]
    have e1 : okAll [] = false := by decide
    have e2 : okAll [((1 : Int), (2 : Int), (0 : Int))] = true := by decide
    rw [e1, e2]
    cases hok : okAll l with
    | false => rfl
    | true =>
      simp only [Bool.not_true, cond_false, Bool.not_false, cond_true]
      unfold okAll at hok
      rw [Bool.and_eq_true] at hok
      cases l with
      | nil => exact absurd hok.1 (by decide)
      | cons p r =>
        rw [decide_eq_true (by simp : (0 : Int) < (((p :: r).length : Nat) : Int)), cond_true]
        have hp : okB p = true := by have := hok.2; rw [List.all_cons, Bool.and_eq_true] at this; exact this.1
        have : F18 k [((atI (p :: r) 0).1, ((atI (p :: r) 0).2))] = some (okAll [p]) := F18_eq k [p] (by simp) (by simp; omega)
        rw [this, okAll_single hp]
        rfl
end Go.Proofs.Ytkbaaipnjbcnlaa.Gn
end

section
set_option linter.unusedVariables false
set_option linter.unusedSimpArgs false
/-
  Laws over drawn paces: how far apart, and all together.
-/
namespace Go.Proofs.Ytkbaaipnjbcnlaa.Gn
open Go.Rf Go.IntWalk

abbrev win (p : den pace) : Int := p.1
/-- lo and hi are the least and the greatest window -/
structure FarOk (l : List (den pace)) (lo hi : Int) : Prop where
  all : ∀ p ∈ l, lo ≤ win p ∧ win p ≤ hi
  lo : ∃ p ∈ l, win p = lo
  hi : ∃ p ∈ l, win p = hi
theorem farG_win (s : Int × Int) (p : den pace) : farG s p = (if win p < s.1 then win p else s.1, if s.2 < win p then win p else s.2) := rfl
theorem far_fold : ∀ (r : List (den pace)) (q : List (den pace)) (lo hi : Int), FarOk q lo hi → FarOk (q ++ r) (r.foldl farG (lo, hi)).1 (r.foldl farG (lo, hi)).2
  | [], q, lo, hi, h => by rw [List.append_nil]; exact h
  | p :: r, q, lo, hi, h => by
    rw [List.foldl_cons, farG_win]
    have := far_fold r (q ++ [p]) (if win p < lo then win p else lo) (if hi < win p then win p else hi) ⟨fun x hx => ?_, ?_, ?_⟩
    · rw [List.append_assoc] at this
      exact this
    · rcases List.mem_append.1 hx with hx | hx
      · obtain ⟨h1, h2⟩ := h.all x hx
        split <;> split <;> omega
      · have : x = p := List.mem_singleton.1 hx
        subst this
        split <;> split <;> omega
    · split
      · exact ⟨p, by simp, rfl⟩
      · obtain ⟨x, hx, he⟩ := h.lo
        exact ⟨x, by simp [hx], he⟩
    · split
      · exact ⟨p, by simp, rfl⟩
      · obtain ⟨x, hx, he⟩ := h.hi
        exact ⟨x, by simp [hx], he⟩
theorem far_spec (k : Nat) (l : List (den pace)) (hk : l.length < k) (hok : okAll l = true) : ∃ lo hi, F20 k l = some (hi - lo) ∧ F21 k l = some (hi - lo) ∧ FarOk l lo hi := by
  obtain ⟨h5, hall⟩ := okAll_len hok
  unfold F20 F21
  rw [F16_eq k l (by omega) hk, F18_eq k l (by omega) hk, hok]
  simp only [Option.bind_some, Bool.not_true, cond_false]
  have h1 := F20_loop k l (by omega) k (64, 0) 0 (Nat.zero_le _) (by omega)
  have h2 := F21_loop k l (by omega) k ((atI l 0).1, (atI l 0).1) 0 (Nat.zero_le _) (by omega)
  cases l with
  | nil => exact absurd hok (by decide)
  | cons p r =>
    have hp : okB p = true := by rw [List.all_cons, Bool.and_eq_true] at hall; exact hall.1
    obtain ⟨hp1, hp2⟩ := okB_win hp
    have e1 : farG (64, 0) p = (p.1, p.1) := by
      unfold farG
      simp only
      refine Prod.ext ?_ ?_
      · exact mn64 p.1 hp2
      · exact mx0 p.1 hp1
    have e2 : farG (p.1, p.1) p = (p.1, p.1) := by
      unfold farG
      refine Prod.ext ?_ ?_ <;> simp only <;> split <;> rfl
    have h0 : (atI (p :: r) 0).1 = p.1 := rfl
    rw [h0] at h2 ⊢
    simp only [List.drop_zero, List.foldl_cons, e1, e2] at h1 h2
    rw [decide_eq_true (by simp : (0 : Int) < (((p :: r).length : Nat) : Int))]
    have hf := far_fold r [p] (win p) (win p) ⟨fun x hx => by have := List.mem_singleton.1 hx; subst this; exact ⟨Int.le_refl _, Int.le_refl _⟩, ⟨p, by simp, rfl⟩, ⟨p, by simp, rfl⟩⟩
    refine ⟨_, _, ?_, ?_, hf⟩
    · obtain ⟨x, hx, hxe⟩ := hf.lo
      obtain ⟨y, hy, hye⟩ := hf.hi
      have b1 := okB_win (List.all_eq_true.1 hall x hx)
      have b2 := okB_win (List.all_eq_true.1 hall y hy)
      have b1 : 1 ≤ win x ∧ win x ≤ 64 := b1
      have b2 : 1 ≤ win y ∧ win y ≤ 64 := b2
      have e : IntKind.i64.wrap ((r.foldl farG (win p, win p)).2 - (r.foldl farG (win p, win p)).1) = (r.foldl farG (win p, win p)).2 - (r.foldl farG (win p, win p)).1 := i64_in _ (by omega)
      rw [← e]
      exact h1
    · obtain ⟨x, hx, hxe⟩ := hf.lo
      obtain ⟨y, hy, hye⟩ := hf.hi
      have b1 := okB_win (List.all_eq_true.1 hall x hx)
      have b2 := okB_win (List.all_eq_true.1 hall y hy)
      have b1 : 1 ≤ win x ∧ win x ≤ 64 := b1
      have b2 : 1 ≤ win y ∧ win y ≤ 64 := b2
      have e : IntKind.i64.wrap ((r.foldl farG (win p, win p)).2 - (r.foldl farG (win p, win p)).1) = (r.foldl farG (win p, win p)).2 - (r.foldl farG (win p, win p)).1 := i64_in _ (by omega)
      rw [← e]
      exact h2
theorem far_no (k : Nat) (l : List (den pace)) (hl : l.length < 2 ^ 60) (hk : l.length < k) (hok : okAll l = false) : F20 k l = some (-1) ∧ F21 k l = some (-1) := by
  unfold F20 F21
  rw [F16_eq k l hl hk, F18_eq k l hl hk, hok]
  exact ⟨rfl, rfl⟩
theorem FarOk.bounds {l : List (den pace)} {lo hi : Int} (h : FarOk l lo hi) (hall : l.all okB = true) : 1 ≤ lo ∧ lo ≤ hi ∧ hi ≤ 64 := by
  obtain ⟨x, hx, hxe⟩ := h.lo
  obtain ⟨y, hy, hye⟩ := h.hi
  have b1 : 1 ≤ win x ∧ win x ≤ 64 := okB_win (List.all_eq_true.1 hall x hx)
  have b2 : 1 ≤ win y ∧ win y ≤ 64 := okB_win (List.all_eq_true.1 hall y hy)
  have := h.all x hx
  omega
theorem F7_true (k : Nat) (hk : 100 ≤ k) (b : u8s) (hb : BOk b) : F7 k b = some true := by
  unfold F7
  by_cases h : ((b.length : Nat) : Int) > 1048576
  · rw [decide_eq_true h]; rfl
  · rw [decide_eq_false h, cond_false]
    obtain ⟨l, h1, h2⟩ := F26_ok k hk b hb
    rw [h1, Option.bind_some, F18_eq k l (by omega) (by omega), F25_true k hk]
    cases hok : okAll l with
    | false =>
      obtain ⟨e1, e2⟩ := far_no k l (by omega) (by omega) hok
      rw [e1, e2]
      rfl
    | true =>
      obtain ⟨lo, hi, e1, e2, hf⟩ := far_spec k l (by omega) hok
      obtain ⟨b1, b2, b3⟩ := hf.bounds (okAll_len hok).2
      rw [e1, e2]
      simp only [Option.bind_some, bne_self_eq_false, cond_false]
      have hne : ((hi - lo) == (-1 : Int)) = false := by simp; omega
      rw [hne, decide_eq_true (by omega : hi - lo ≥ 0), decide_eq_true (by omega : hi - lo < 64)]
      simp only [cond_false, cond_true]
      by_cases hl : ((l.length : Nat) : Int) > 1
      · rw [decide_eq_true hl]; rfl
      · rw [decide_eq_false hl, cond_false]
        have : hi - lo = 0 := by
          match l, hl, hok, hf with
          | [], _, hok, _ => exact absurd hok (by decide)
          | [p], _, _, hf =>
            obtain ⟨x, hx, hxe⟩ := hf.lo
            obtain ⟨y, hy, hye⟩ := hf.hi
            have e1 := List.mem_singleton.1 hx
            have e2 := List.mem_singleton.1 hy
            rw [e1] at hxe
            rw [e2] at hye
            omega
          | _ :: _ :: _, hl, _, _ => simp at hl; omega
        rw [this]
        rfl

/-- all windows together -/
def sumZ : List (den pace) → Int
  | [] => 0
  | p :: r => win p + sumZ r
theorem sumZ_bound : ∀ (l : List (den pace)), l.all okB = true → (l.length : Int) ≤ sumZ l ∧ sumZ l ≤ 64 * (l.length : Int)
  | [], _ => by simp [sumZ]
  | p :: r, h => by
    rw [List.all_cons, Bool.and_eq_true] at h
    have ih := sumZ_bound r h.2
    have hp : 1 ≤ win p ∧ win p ≤ 64 := okB_win h.1
    simp only [sumZ, List.length_cons]
    omega
theorem sumW_eq : ∀ (l : List (den pace)) (s : Int), l.all okB = true → 0 ≤ s → s + 64 * (l.length : Int) < 2 ^ 60 → sumW s l = s + sumZ l
  | [], s, _, _, _ => by simp [sumW, sumZ]
  | p :: r, s, h, hs, hb => by
    rw [List.all_cons, Bool.and_eq_true] at h
    have hp : 1 ≤ win p ∧ win p ≤ 64 := okB_win h.1
    simp only [List.length_cons] at hb
    have e : sumW s (p :: r) = sumW (IntKind.i64.wrap (s + win p)) r := rfl
    rw [e, i64_in (s + win p) (by omega), sumW_eq r (s + win p) h.2 (by omega) (by omega)]
    simp only [sumZ]
    omega
theorem sumW0 {l : List (den pace)} (h : okAll l = true) : sumW 0 l = sumZ l ∧ (l.length : Int) ≤ sumZ l ∧ sumZ l ≤ 64 * (l.length : Int) ∧ l.length ≤ 5 := by
  obtain ⟨h5, hall⟩ := okAll_len h
  have := sumZ_bound l hall
  exact ⟨by rw [sumW_eq l 0 hall (by omega) (by omega)]; omega, this.1, this.2, h5⟩
theorem F8_true (k : Nat) (hk : 100 ≤ k) (b : u8s) (hb : BOk b) : F8 k b = some true := by
  unfold F8
  by_cases h : ((b.length : Nat) : Int) > 1048576
  · rw [decide_eq_true h]; rfl
  · rw [decide_eq_false h, cond_false]
    obtain ⟨l, h1, h2⟩ := F27_ok k hk b hb
    rw [h1, Option.bind_some, F18_eq k l (by omega) (by omega), F25_true k hk, F22_eq k l (by omega) (by omega), F23_eq k l (by omega) (by omega)]
    simp only [Option.bind_some, bne_self_eq_false, cond_false]
    cases hok : okAll l with
    | false => rfl
    | true =>
      obtain ⟨e0, e1, e2, e3⟩ := sumW0 hok
      simp only [cond_true]
      rw [e0]
      have hne : ((sumZ l) == (-1 : Int)) = false := by simp; omega
      rw [hne, i64_in (64 * ((l.length : Nat) : Int)) (by omega), decide_eq_true (by omega : sumZ l ≥ ((l.length : Nat) : Int)), decide_eq_true (by omega : sumZ l ≤ 64 * ((l.length : Nat) : Int))]
      rfl
theorem pure6 (l : u8s) (hw : Wf (.sl (.int .u8)) l) (_ : l.length * 1 ≤ 140737488351232) :
    ∃ k, (∀ l, Contract Try.prog 6 [.one (.l (.s .ro (.int .u8) l))] ⟨F6 k l, fun r => (.one (.v (.bool r)), [])⟩) ∧ F6 k l = some true := ⟨100, fun l => F6_con _ l, F6_true 100 (by omega) l (.of hw)⟩
theorem pure7 (l : u8s) (hw : Wf (.sl (.int .u8)) l) (_ : l.length * 1 ≤ 140737488351232) :
    ∃ k, (∀ l, Contract Try.prog 7 [.one (.l (.s .ro (.int .u8) l))] ⟨F7 k l, fun r => (.one (.v (.bool r)), [])⟩) ∧ F7 k l = some true := ⟨100, fun l => F7_con _ l, F7_true 100 (by omega) l (.of hw)⟩
theorem pure8 (l : u8s) (hw : Wf (.sl (.int .u8)) l) (_ : l.length * 1 ≤ 140737488351232) :
    ∃ k, (∀ l, Contract Try.prog 8 [.one (.l (.s .ro (.int .u8) l))] ⟨F8 k l, fun r => (.one (.v (.bool r)), [])⟩) ∧ F8 k l = some true := ⟨100, fun l => F8_con _ l, F8_true 100 (by omega) l (.of hw)⟩
end Go.Proofs.Ytkbaaipnjbcnlaa.Gn
end

section
set_option linter.unusedVariables false
set_option linter.unusedSimpArgs false
/-
  Laws over drawn paces: a round, many rounds.
-/
namespace Go.Proofs.Ytkbaaipnjbcnlaa.Gn
open Go.Rf Go.IntWalk

theorem heardP_win (p : den pace) (h : okB p = true) : win p ≤ win (heardP p) ∧ win (heardP p) ≤ win p + 1 := by
  obtain ⟨a, b, c⟩ := p
  have h' := (okB_iff a b c).1 h
  unfold heardP
  rw [if_pos h]
  have key : ∀ a b c : Int, ((1 ≤ a ∧ a ≤ 64) ∧ (2 ≤ b ∧ b ≤ 64) ∧ (0 ≤ c ∧ c ≤ a - 1)) → a ≤ win (if a < b then (IntKind.i64.wrap (a + 1), b, 0)
     else if IntKind.i64.wrap (c + 1) < a then (a, b, IntKind.i64.wrap (c + 1))
     else ((if 64 < IntKind.i64.wrap (a + 1) then 64 else IntKind.i64.wrap (a + 1)), b, 0)) ∧ win (if a < b then (IntKind.i64.wrap (a + 1), b, 0)
     else if IntKind.i64.wrap (c + 1) < a then (a, b, IntKind.i64.wrap (c + 1))
     else ((if 64 < IntKind.i64.wrap (a + 1) then 64 else IntKind.i64.wrap (a + 1)), b, 0)) ≤ a + 1 := by
    intro a b c h
    rw [i64_in (a + 1) (by omega), i64_in (c + 1) (by omega)]
    split
    · exact ⟨by show a ≤ a + 1; omega, by show a + 1 ≤ a + 1; omega⟩
    · split
      · exact ⟨by show a ≤ a; omega, by show a ≤ a + 1; omega⟩
      · split
        · exact ⟨by show a ≤ 64; omega, by show (64 : Int) ≤ a + 1; omega⟩
        · exact ⟨by show a ≤ a + 1; omega, by show a + 1 ≤ a + 1; omega⟩
  exact key a b c h'
theorem iter_win : ∀ (n : Nat) (p : den pace), okB p = true → win p ≤ win (iter heardP n p) ∧ win (iter heardP n p) ≤ win p + n
  | 0, p, _ => by simp [iter]
  | n + 1, p, h => by
    have h1 := heardP_win p h
    have h2 := iter_win n (heardP p) (heardP_ok p h)
    simp only [iter]
    omega
theorem lostP_win (p : den pace) (h : okB p = true) : win (lostP p) = if win p / 2 < 2 then 2 else win p / 2 := by
  obtain ⟨a, b, c⟩ := p
  have h' := (okB_iff a b c).1 h
  unfold lostP
  rw [if_pos h]
  have key : ∀ a : Int, 1 ≤ a ∧ a ≤ 64 → (if IntKind.i64.wrap (a.tdiv 2) < 2 then 2 else IntKind.i64.wrap (a.tdiv 2)) = if a / 2 < 2 then 2 else a / 2 := by
    intro a h
    have hd : a.tdiv 2 = a / 2 := Int.tdiv_eq_ediv_of_nonneg (by omega)
    rw [hd, i64_in (a / 2) (by omega)]
  exact key a h'.1
theorem sum_heard : ∀ (l : List (den pace)), l.all okB = true → sumZ l ≤ sumZ (l.map (stepP true)) ∧ sumZ (l.map (stepP true)) ≤ 2 * sumZ l
  | [], _ => by simp [sumZ]
  | p :: r, h => by
    rw [List.all_cons, Bool.and_eq_true] at h
    have ih := sum_heard r h.2
    have hp : 1 ≤ win p ∧ win p ≤ 64 := okB_win h.1
    have h1 := iter_win (Int.toNat (win p)) p h.1
    have hc : ((Int.toNat (win p) : Nat) : Int) = win p := Int.toNat_of_nonneg (by omega)
    have e : win (stepP true p) = win (iter heardP (Int.toNat (win p)) p) := rfl
    simp only [List.map_cons, sumZ, e]
    omega
theorem sum_lost : ∀ (l : List (den pace)), l.all okB = true → 2 * sumZ (l.map (stepP false)) ≤ sumZ l + 4 * (l.length : Int)
  | [], _ => by simp [sumZ]
  | p :: r, h => by
    rw [List.all_cons, Bool.and_eq_true] at h
    have ih := sum_lost r h.2
    have hp : 1 ≤ win p ∧ win p ≤ 64 := okB_win h.1
    have e : win (stepP false p) = win (lostP p) := rfl
    have h1 := lostP_win p h.1
    simp only [List.map_cons, sumZ, e, h1, List.length_cons]
    split <;> omega

theorem eqD_self : ∀ (t : Ty) (x : den t), hasSl t = false → eqD t x x = true
  | .int _, x, _ => by simp [eqD]
  | .bool, x, _ => by simp [eqD]
  | .str, x, _ => by simp [eqD]
  | .sl _, _, h => by simp [hasSl] at h
  | .pair a b, x, h => by
    simp only [hasSl, Bool.or_eq_false_iff] at h
    simp [eqD, eqD_self a x.1 h.1, eqD_self b x.2 h.2]
theorem F34_self (k : Nat) (l : List (den pace)) (hl : l.length < 2 ^ 60) (hk : l.length < k) : F34 k l l = some true := by
  have := foldLoop l (fun n (_ : Unit) j => F34_l0 k l l n j) (fun s _ => s) (fun _ => true)
    (fun n s j h => by
      simp only [F34_l0]
      rw [atI_get l j h, up1 j (by omega)]
      have e : eqD pace (l[j].1, l[j].2) (l[j].1, l[j].2) = true := eqD_self pace _ rfl
      rw [e]
      simp [h])
    (fun n s => by simp [F34_l0]) k () 0 (Nat.zero_le _) (by omega)
  unfold F34
  simp only [bne_self_eq_false, cond_false]
  exact this

theorem F33_ok (k : Nat) (hk : 100 ≤ k) (b : u8s) (hb : BOk b) : ∃ l a, F33 k b = some (l, a) ∧ l.length ≤ 20 := by
  obtain ⟨b', h1, h2, h3⟩ := F56_ok k b hb
  obtain ⟨l, p', h4, h5, h6, h7⟩ := F55_ok k hk b' h2 h3 0 12 (by omega) (by omega)
  obtain ⟨r1, e1, _⟩ := F58_ok k b' h2 h3 p' 256 h6 (by omega)
  obtain ⟨r2, e2, _⟩ := F58_ok k b' h2 h3 (p' + 1) 15 (by omega) (by omega)
  refine ⟨l, IntKind.i64.wrap (r1 + (IntKind.i64.wrap ((IntKind.i64.wrap (r2.tdiv 14)) * 900))), ?_, h5⟩
  unfold F33
  rw [h1, Option.bind_some]
  simp only
  rw [h4, Option.bind_some]
  simp only
  rw [e1, Option.bind_some]
  simp only
  rw [e2, Option.bind_some]

theorem okAll_pos {l : List (den pace)} (h : okAll l = true) : 1 ≤ l.length := by
  unfold okAll inB at h
  simp only [Bool.and_eq_true, decide_eq_true_eq] at h
  omega
theorem F11_true (k : Nat) (hk : 100 ≤ k) (b : u8s) (hb : BOk b) : F11 k b = some true := by
  unfold F11
  by_cases h : ((b.length : Nat) : Int) > 1048576
  · rw [decide_eq_true h]; rfl
  · rw [decide_eq_false h, cond_false]
    obtain ⟨l, a, h1, h2⟩ := F33_ok k hk b hb
    rw [h1, Option.bind_some]
    simp only
    cases hok : okAll l with
    | false =>
      rw [F29_no k l (by omega) (by omega) hok, F30_no k l (by omega) (by omega) hok, F25_true k hk]
      simp only [Option.bind_some]
      rw [F34_self k [] (by simp) (by simp; omega)]
      rfl
    | true =>
      rw [F29_ok k hk l hok, F30_ok k hk l hok, F25_true k hk]
      cases ha : inB a 1 1000 with
      | false =>
        simp only [cond_false, Option.bind_some]
        rw [F34_self k [] (by simp) (by simp; omega)]
        rfl
      | true =>
        simp only [cond_true, Option.bind_some]
        have hst := okAll_step hok a
        have hpos := okAll_pos hst
        obtain ⟨s1, s2, s3, s4⟩ := sumW0 hok
        obtain ⟨t1, t2, t3, t4⟩ := sumW0 hst
        rw [F34_self k (stepL l a).1 (by omega) (by omega), F23_eq k l (by omega) (by omega), F23_eq k (stepL l a).1 (by omega) (by omega), F18_eq k (stepL l a).1 (by omega) (by omega), hok, hst, s1, t1]
        have hne : ((((stepL l a).1.length : Nat) : Int) == 0) = false := by simp; intro h; rw [h] at hpos; simp at hpos
        simp only [Option.bind_some, beq_self_eq_true, Bool.not_true, cond_false, hne, cond_true]
        have hf : (stepL l a).2 = decide (sumZ l ≤ a) := by simp only [stepL, s1]
        have hlen : (stepL l a).1.length = l.length := by simp [stepL]
        rw [hf]
        simp only [beq_self_eq_true, cond_true]
        by_cases hle : sumZ l ≤ a
        · rw [decide_eq_true hle]
          have hs : (stepL l a).1 = l.map (stepP true) := by simp only [stepL, s1, decide_eq_true hle]
          obtain ⟨u1, u2⟩ := sum_heard l (okAll_len hok).2
          rw [hs] at *
          rw [i64_in (2 * sumZ l) (by omega), decide_eq_true (by omega : sumZ (l.map (stepP true)) ≥ sumZ l), decide_eq_true (by omega : sumZ (l.map (stepP true)) ≤ 2 * sumZ l)]
          rfl
        · rw [decide_eq_false hle]
          have hs : (stepL l a).1 = l.map (stepP false) := by simp only [stepL, s1, decide_eq_false hle]
          have u1 := sum_lost l (okAll_len hok).2
          rw [hs] at *
          have hd : (sumZ l).tdiv 2 = sumZ l / 2 := Int.tdiv_eq_ediv_of_nonneg (by omega)
          rw [hd, i64_in (sumZ l / 2) (by omega), i64_in (2 * ((l.length : Nat) : Int)) (by omega), i64_in (sumZ l / 2 + 2 * ((l.length : Nat) : Int)) (by omega),
            decide_eq_true (by omega : sumZ (l.map (stepP false)) ≤ sumZ l / 2 + 2 * ((l.length : Nat) : Int))]
          rfl
/-! ### many rounds -/
def runL (a : Int) : Nat → List (den pace) → List (den pace) × Int
  | 0, l => (l, 0)
  | n + 1, l => ((runL a n (stepL l a).1).1, (runL a n (stepL l a).1).2 + (if (stepL l a).2 = true then sumZ l else 0))
theorem runL_ok (a : Int) (ha : 1 ≤ a ∧ a ≤ 1000) : ∀ (n : Nat) (l : List (den pace)), okAll l = true → okAll (runL a n l).1 = true ∧ 0 ≤ (runL a n l).2 ∧ (runL a n l).2 ≤ a * n
  | 0, l, h => ⟨h, Int.le_refl _, by simp [runL]⟩
  | n + 1, l, h => by
    obtain ⟨h1, h2, h3⟩ := runL_ok a ha n (stepL l a).1 (okAll_step h a)
    obtain ⟨s1, s2, s3, s4⟩ := sumW0 h
    have hf : (stepL l a).2 = decide (sumZ l ≤ a) := by simp only [stepL, s1]
    refine ⟨h1, ?_, ?_⟩
    · simp only [runL]
      split <;> omega
    · simp only [runL, hf]
      have : a * ((n + 1 : Nat) : Int) = a * (n : Int) + a := by
        rw [Int.natCast_add, Int.mul_add]; simp
      rw [this]
      split
      · rename_i h; simp at h; omega
      · omega
theorem runL_add (a : Int) : ∀ (m n : Nat) (l : List (den pace)), runL a (m + n) l = ((runL a n (runL a m l).1).1, (runL a m l).2 + (runL a n (runL a m l).1).2)
  | 0, n, l => by simp [runL]
  | m + 1, n, l => by
    rw [show m + 1 + n = (m + n) + 1 by omega]
    simp only [runL]
    rw [runL_add a m n (stepL l a).1]
    refine Prod.ext rfl ?_
    simp only
    omega
theorem F36_loop (k : Nat) (hk : 100 ≤ k) (l0 : List (den pace)) (a : Int) (ha : 1 ≤ a ∧ a ≤ 1000) (w : Nat) (hw : w ≤ 200) : ∀ (n j : Nat) (x : Int) (m : List (den pace)), j ≤ w → w - j < n → okAll m = true → 0 ≤ x → x + 1000 * ((w - j : Nat) : Int) < 2 ^ 40 →
    F36_l0 k l0 a (w : Int) n x (j : Int) m = some ((runL a (w - j) m).1, x + (runL a (w - j) m).2)
  | 0, j, x, m, _, h, _, _, _ => by omega
  | n + 1, j, x, m, hj, h, hm, hx, hb => by
    rw [F36_l0]
    rcases Nat.lt_or_ge j w with hlt | hge
    · have h5 := (okAll_len hm).1
      obtain ⟨s1, s2, s3, s4⟩ := sumW0 hm
      have hf : (stepL m a).2 = decide (sumZ m ≤ a) := by simp only [stepL, s1]
      rw [decide_eq_true (by omega : ((j : Nat) : Int) < (w : Nat))]
      simp only [cond_true]
      rw [F59_ok k hk m hm, F54_eq k m (by omega) (by omega), up1 j (by omega), s1]
      simp only [Option.bind_some]
      rw [show w - j = (w - (j + 1)) + 1 by omega]
      simp only [runL]
      cases hc : (stepL m a).2 with
      | true =>
        rw [hf] at hc
        simp only [decide_eq_true_eq] at hc
        rw [cond_true, i64_in (x + sumZ m) (by omega), F36_loop k hk l0 a ha w hw n (j + 1) (x + sumZ m) _ hlt (by omega) (okAll_step hm a) (by omega) (by omega)]
        rw [if_pos rfl]
        congr 2
        omega
      | false =>
        rw [cond_false, F36_loop k hk l0 a ha w hw n (j + 1) x _ hlt (by omega) (okAll_step hm a) (by omega) (by omega)]
        rw [if_neg (by simp)]
        congr 2
        omega
    · have : j = w := by omega
      subst this
      rw [decide_eq_false (by omega : ¬ ((j : Nat) : Int) < (j : Nat))]
      simp [runL]
theorem F36_ok (k : Nat) (hk : 300 ≤ k) (l : List (den pace)) (hl : l.length ≤ 20) (hok : okAll l = true) (a : Int) (ha : 1 ≤ a ∧ a ≤ 1000) (w : Nat) (hw : w ≤ 200) : F36 k l a (w : Int) = some (runL a w l) := by
  unfold F36
  have h1 : inB a 1 1000 = true := by unfold inB; simp; omega
  have h2 : inB (w : Int) 0 200 = true := by unfold inB; simp; omega
  rw [F18_eq k l (by omega) (by omega), F49_eq, F49_eq, F62_eq k l (by omega), hok, h1, h2]
  simp only [Option.bind_some, Bool.not_true, cond_false]
  have := F36_loop k (by omega) l a ha w hw k 0 0 l (Nat.zero_le _) (by omega) hok (by omega) (by omega)
  simp only [Nat.sub_zero, Int.zero_add] at this
  exact this
theorem F36_no (k : Nat) (l : List (den pace)) (hl : l.length ≤ 20) (hk : 100 ≤ k) (a b : Int) (h : okAll l = false ∨ inB a 1 1000 = false ∨ inB b 0 200 = false) : F36 k l a b = some ([], 0) := by
  unfold F36
  rw [F18_eq k l (by omega) (by omega), F49_eq, F49_eq]
  simp only [Option.bind_some]
  cases h1 : okAll l with
  | false => rfl
  | true =>
    cases h2 : inB a 1 1000 with
    | false => rfl
    | true =>
      cases h3 : inB b 0 200 with
      | false => rfl
      | true => rw [h1, h2, h3] at h; simp at h
theorem F37_ok (k : Nat) (hk : 100 ≤ k) (b : u8s) (hb : BOk b) : ∃ l a w, F37 k b = some (l, a, w) ∧ l.length ≤ 20 ∧ -(2 ^ 40) < w ∧ w < 2 ^ 40 := by
  obtain ⟨b', h1, h2, h3⟩ := F56_ok k b hb
  obtain ⟨l, p', h4, h5, h6, h7⟩ := F55_ok k hk b' h2 h3 0 15 (by omega) (by omega)
  obtain ⟨r1, e1, _⟩ := F58_ok k b' h2 h3 p' 250 h6 (by omega)
  obtain ⟨r2, e2, q1, q2, _⟩ := F58_ok k b' h2 h3 (p' + 1) 60 (by omega) (by omega)
  obtain ⟨r3, e3, q3, q4, _⟩ := F58_ok k b' h2 h3 (p' + 1 + 1) 20 (by omega) (by omega)
  have q2 := q2 (by omega)
  have q4 := q4 (by omega)
  have d1 : 0 ≤ r3.tdiv 19 := Int.tdiv_nonneg q3 (by omega)
  have d2 : r3.tdiv 19 ≤ r3 := Int.tdiv_le_self _ q3
  refine ⟨l, IntKind.i64.wrap (1 + r1), IntKind.i64.wrap (r2 + (IntKind.i64.wrap ((IntKind.i64.wrap (r3.tdiv 19)) * 200))), ?_, h5, ?_⟩
  · unfold F37
    rw [h1, Option.bind_some]
    simp only
    rw [h4, Option.bind_some]
    simp only
    rw [e1, Option.bind_some]
    simp only
    rw [e2, Option.bind_some]
    simp only
    rw [e3, Option.bind_some]
  · rw [i64_in (r3.tdiv 19) (by omega), i64_in (r3.tdiv 19 * 200) (by omega), i64_in (r2 + r3.tdiv 19 * 200) (by omega)]
    omega
theorem F13_true (k : Nat) (hk : 300 ≤ k) (b : u8s) (hb : BOk b) : F13 k b = some true := by
  unfold F13
  by_cases h : ((b.length : Nat) : Int) > 1048576
  · rw [decide_eq_true h]; rfl
  · rw [decide_eq_false h, cond_false]
    obtain ⟨l, a, w, h1, h2, h3, h4⟩ := F37_ok k (by omega) b hb
    rw [h1, Option.bind_some]
    simp only
    obtain ⟨r, e1, e2, e3⟩ := run_same k hk l (by omega) (by omega) a w
    rw [e1, e2, F25_true k (by omega)]
    simp only [Option.bind_some, bne_self_eq_false, cond_false]
    rw [F34_self k r.1 (by omega) (by omega)]
    simp only [Option.bind_some, Bool.not_true, cond_false]
    by_cases hcase : okAll l = false ∨ inB a 1 1000 = false ∨ inB w 0 200 = false
    · rw [F36_no k l h2 (by omega) a w hcase] at e2
      simp only [Option.some.injEq] at e2
      subst e2
      rfl
    · have hc1 : okAll l = true := by cases h : okAll l <;> simp_all
      have hc2 : inB a 1 1000 = true := by cases h : inB a 1 1000 <;> simp_all
      have hc3 : inB w 0 200 = true := by cases h : inB w 0 200 <;> simp_all
      have ha : 1 ≤ a ∧ a ≤ 1000 := by unfold inB at hc2; simpa using hc2
      have hw : 0 ≤ w ∧ w ≤ 200 := by unfold inB at hc3; simpa using hc3
      obtain ⟨n, rfl⟩ := Int.eq_ofNat_of_zero_le hw.1
      have hn : n ≤ 200 := by omega
      rw [F36_ok k hk l h2 hc1 a ha n hn] at e2
      simp only [Option.some.injEq] at e2
      subst e2
      obtain ⟨o1, o2, o3⟩ := runL_ok a ha n l hc1
      have hpos := okAll_pos o1
      have hne : ((((runL a n l).1.length : Nat) : Int) == 0) = false := by simp; intro h; rw [h] at hpos; simp at hpos
      rw [hne, cond_false]
      have hd : ((n : Int).tdiv 2) = ((n / 2 : Nat) : Int) := by
        rw [Int.tdiv_eq_ediv_of_nonneg (by omega)]; omega
      rw [hd, i64_in ((n / 2 : Nat) : Int) (by omega), show (n : Int) - ((n / 2 : Nat) : Int) = ((n - n / 2 : Nat) : Int) by omega, i64_in ((n - n / 2 : Nat) : Int) (by omega)]
      rw [F36_ok k hk l h2 hc1 a ha (n / 2) (by omega)]
      simp only [Option.bind_some]
      obtain ⟨u1, u2, u3⟩ := runL_ok a ha (n / 2) l hc1
      have hh5 := (okAll_len u1).1
      rw [F36_ok k hk (runL a (n / 2) l).1 (by omega) u1 a ha (n - n / 2) (by omega)]
      simp only [Option.bind_some]
      have hadd := runL_add a (n / 2) (n - n / 2) l
      rw [show n / 2 + (n - n / 2) = n by omega] at hadd
      have g1 : (runL a (n - n / 2) (runL a (n / 2) l).1).1 = (runL a n l).1 := by rw [hadd]
      have g2 : (runL a (n / 2) l).2 + (runL a (n - n / 2) (runL a (n / 2) l).1).2 = (runL a n l).2 := by rw [hadd]
      have hmul : 0 ≤ a * (n : Int) ∧ a * (n : Int) ≤ 1000 * 200 := ⟨Int.mul_nonneg (by omega) (by omega), Int.mul_le_mul (by omega) (by omega) (by omega) (by omega)⟩
      rw [F18_eq k (runL a n l).1 (by omega) (by omega), o1, g1, F34_self k (runL a n l).1 (by omega) (by omega)]
      simp only [Option.bind_some, cond_true]
      rw [i64_in (a * (n : Int)) (by omega), g2, i64_in (runL a n l).2 (by omega), decide_eq_true (by omega : (runL a n l).2 ≥ 0), decide_eq_true (by omega : (runL a n l).2 ≤ a * (n : Int))]
      simp only [cond_true, beq_self_eq_true]
theorem pure11 (l : u8s) (hw : Wf (.sl (.int .u8)) l) (_ : l.length * 1 ≤ 140737488351232) :
    ∃ k, (∀ l, Contract Try.prog 11 [.one (.l (.s .ro (.int .u8) l))] ⟨F11 k l, fun r => (.one (.v (.bool r)), [])⟩) ∧ F11 k l = some true := ⟨300, fun l => F11_con _ l, F11_true 300 (by omega) l (.of hw)⟩
theorem pure13 (l : u8s) (hw : Wf (.sl (.int .u8)) l) (_ : l.length * 1 ≤ 140737488351232) :
    ∃ k, (∀ l, Contract Try.prog 13 [.one (.l (.s .ro (.int .u8) l))] ⟨F13 k l, fun r => (.one (.v (.bool r)), [])⟩) ∧ F13 k l = some true := ⟨300, fun l => F13_con _ l, F13_true 300 (by omega) l (.of hw)⟩
end Go.Proofs.Ytkbaaipnjbcnlaa.Gn
end

section
set_option linter.unusedVariables false
set_option linter.unusedSimpArgs false
/-
  Those that share a way become alike.
-/
namespace Go.Proofs.Ytkbaaipnjbcnlaa.Gn
open Go.Rf Go.IntWalk

/-- a pace that grows slowly, and has not begun to -/
def SlowP (p : den pace) : Prop := okB p = true ∧ @LE.le Int _ p.2.1 p.1 ∧ @Eq Int p.2.2 0

theorem iter_add {α : Type} (f : α → α) : ∀ (m n : Nat) (x : α), iter f (m + n) x = iter f n (iter f m x)
  | 0, n, x => by rw [Nat.zero_add]; rfl
  | m + 1, n, x => by rw [show m + 1 + n = (m + n) + 1 by omega]; exact iter_add f m n (f x)
/-- some answers heard, fewer than its window -/
theorem iter_rest (a b : Int) (h : (1 ≤ a ∧ a ≤ 64) ∧ (2 ≤ b ∧ b ≤ 64) ∧ b ≤ a) : ∀ (i : Nat) (c : Int), 0 ≤ c → c + i ≤ a - 1 → iter heardP i ((a, b, c) : den pace) = ((a, b, c + i) : den pace)
  | 0, c, _, _ => by simp [iter]
  | i + 1, c, hc, hi => by
    have hk : okB (a, b, c) = true := (okB_iff a b c).2 (by omega)
    have e : heardP ((a, b, c) : den pace) = ((a, b, c + 1) : den pace) := by
      unfold heardP
      rw [if_pos hk]
      simp only
      have e1 : IntKind.i64.wrap (c + 1) = c + 1 := i64_in _ (by omega)
      rw [e1, if_neg (show ¬ a < b by omega), if_pos (show c + 1 < a by omega)]
    simp only [iter, e]
    rw [iter_rest a b h i (c + 1) (by omega) (by omega), show c + 1 + (i : Int) = c + ((i + 1 : Nat) : Int) by omega]
theorem heard_last (a b : Int) (h : (1 ≤ a ∧ a ≤ 64) ∧ (2 ≤ b ∧ b ≤ 64) ∧ b ≤ a) : heardP ((a, b, a - 1) : den pace) = ((if 64 < a + 1 then 64 else a + 1, b, 0) : den pace) := by
  have hk : okB (a, b, a - 1) = true := (okB_iff a b (a - 1)).2 (by omega)
  unfold heardP
  rw [if_pos hk]
  simp only
  have e1 : IntKind.i64.wrap (a - 1 + 1) = a := by rw [i64_in _ (by omega)]; omega
  have e2 : IntKind.i64.wrap (a + 1) = a + 1 := i64_in _ (by omega)
  rw [e1, e2, if_neg (show ¬ a < b by omega), if_neg (show ¬ a < a by omega)]
theorem iter_all (a b : Int) (h : (1 ≤ a ∧ a ≤ 64) ∧ (2 ≤ b ∧ b ≤ 64) ∧ b ≤ a) : iter heardP (Int.toNat a) ((a, b, 0) : den pace) = ((if 64 < a + 1 then 64 else a + 1, b, 0) : den pace) := by
  obtain ⟨n, hn⟩ : ∃ n : Nat, a = n + 1 := ⟨Int.toNat (a - 1), by omega⟩
  have e : Int.toNat a = n + 1 := by omega
  rw [e, iter_add heardP n 1, iter_rest a b h n 0 (by omega) (by omega)]
  simp only [iter]
  rw [show (0 : Int) + (n : Int) = a - 1 by omega]
  exact heard_last a b h

def gT (w : Int) : Int := if 64 < w + 1 then 64 else w + 1
def gF (w : Int) : Int := if w / 2 < 2 then 2 else w / 2
theorem step_slow (p : den pace) (h : SlowP p) (f : Bool) : SlowP (stepP f p) ∧ win (stepP f p) = cond f (gT (win p)) (gF (win p)) := by
  have hok := stepP_ok f p h.1
  obtain ⟨a, b, c⟩ := p
  obtain ⟨h1, h2, h3⟩ := h
  have h' := (okB_iff a b c).1 h1
  have h2 : @LE.le Int _ b a := h2
  have h3 : @Eq Int c 0 := h3
  subst h3
  have gT_le : ∀ x y : Int, y ≤ 64 → y ≤ x → y ≤ gT x := fun x y h1 h2 => by unfold gT; split <;> omega
  cases f with
  | true =>
    have e : stepP true ((a, b, 0) : den pace) = ((if 64 < a + 1 then 64 else a + 1, b, 0) : den pace) := iter_all a b ⟨h'.1, h'.2.1, h2⟩
    rw [e] at hok ⊢
    refine ⟨⟨hok, ?_, rfl⟩, rfl⟩
    exact gT_le a b h'.2.1.2 h2
  | false =>
    have hw := lostP_win ((a, b, 0) : den pace) h1
    have e : stepP false ((a, b, 0) : den pace) = lostP ((a, b, 0) : den pace) := rfl
    rw [e] at hok ⊢
    refine ⟨⟨hok, ?_, ?_⟩, hw⟩
    · unfold lostP
      rw [if_pos h1]
      exact Int.le_refl _
    · unfold lostP
      rw [if_pos h1]
theorem far_map {l : List (den pace)} {lo hi : Int} (h : FarOk l lo hi) (f : den pace → den pace) (g : Int → Int) (hg : ∀ x y, x ≤ y → g x ≤ g y) (hf : ∀ p ∈ l, win (f p) = g (win p)) : FarOk (l.map f) (g lo) (g hi) := by
  refine ⟨fun q hq => ?_, ?_, ?_⟩
  · obtain ⟨p, hp, rfl⟩ := List.mem_map.1 hq
    rw [hf p hp]
    exact ⟨hg _ _ (h.all p hp).1, hg _ _ (h.all p hp).2⟩
  · obtain ⟨p, hp, he⟩ := h.lo
    exact ⟨f p, List.mem_map_of_mem hp, by rw [hf p hp, he]⟩
  · obtain ⟨p, hp, he⟩ := h.hi
    exact ⟨f p, List.mem_map_of_mem hp, by rw [hf p hp, he]⟩
theorem FarOk.uniq {l : List (den pace)} {lo hi lo' hi' : Int} (h : FarOk l lo hi) (h' : FarOk l lo' hi') : lo' = lo ∧ hi' = hi := by
  obtain ⟨a, a1, a2⟩ := h.lo
  obtain ⟨b, b1, b2⟩ := h.hi
  obtain ⟨c, c1, c2⟩ := h'.lo
  obtain ⟨d, d1, d2⟩ := h'.hi
  have q1 := h.all c c1
  have q2 := h.all d d1
  have q3 := h'.all a a1
  have q4 := h'.all b b1
  omega
theorem gT_mono (x y : Int) (h : x ≤ y) : gT x ≤ gT y := by unfold gT; split <;> split <;> omega
theorem gF_mono (x y : Int) (h : x ≤ y) : gF x ≤ gF y := by unfold gF; split <;> split <;> omega
theorem far_of (k : Nat) (hk : 100 ≤ k) (l : List (den pace)) (hok : okAll l = true) {lo hi : Int} (h : FarOk l lo hi) : F21 k l = some (hi - lo) := by
  obtain ⟨lo', hi', _, e2, hf⟩ := far_spec k l (by have := (okAll_len hok).1; omega) hok
  obtain ⟨rfl, rfl⟩ := h.uniq hf
  exact e2

/-- how far apart they may be still, when so much was lost -/
def Dn : Nat → Int
  | 0 => 63
  | n + 1 => (Dn n + 1) / 2
theorem Dn_small : ∀ n : Nat, Dn (n + 6) ≤ 1
  | 0 => by decide
  | n + 1 => by
    have ih := Dn_small n
    show (Dn (n + 6) + 1) / 2 ≤ 1
    omega
theorem slow_loop (k : Nat) (hk : 300 ≤ k) (b0 : u8s) (a : Int) (ha : inB a 1 1000 = true) : ∀ (n j q : Nat) (m : List (den pace)), j ≤ 200 → 200 - j < n → okAll m = true → (∀ p ∈ m, SlowP p) → q ≤ j →
    (∀ lo hi, FarOk m lo hi → hi - lo ≤ Dn q) → F9_l0 k b0 n a (q : Int) (j : Int) m = some true
  | 0, j, q, m, _, h, _, _, _, _ => by omega
  | n + 1, j, q, m, hj, h, hm, hs, hq, hd => by
    obtain ⟨lo, hi, e1, e2, hf⟩ := far_spec k m (by have := (okAll_len hm).1; omega) hm
    obtain ⟨b1, b2, b3⟩ := hf.bounds (okAll_len hm).2
    rw [F9_l0]
    rcases Nat.lt_or_ge j 200 with hlt | hge
    · rw [decide_eq_true (by omega : ((j : Nat) : Int) < 200), cond_true, F29_ok k (by omega) m hm, ha, cond_true, Option.bind_some]
      have hst := okAll_step hm a
      have hslow : ∀ p ∈ (stepL m a).1, SlowP p := fun p hp => by
        obtain ⟨x, hx, rfl⟩ := List.mem_map.1 hp
        exact (step_slow x (hs x hx) _).1
      cases hc : (stepL m a).2 with
      | true =>
        have hfm : FarOk (stepL m a).1 (gT lo) (gT hi) := by
          refine far_map hf _ gT gT_mono fun p hp => ?_
          have := (step_slow p (hs p hp) (stepL m a).2).2
          rw [hc] at this
          have e : (stepL m a).2 = decide (sumW 0 m ≤ a) := rfl
          rw [← e, hc]
          exact this
        rw [far_of k (by omega) _ hst hfm, e2]
        simp only [Option.bind_some]
        have hle : gT hi - gT lo ≤ hi - lo := by unfold gT; split <;> split <;> omega
        rw [decide_eq_false (by split <;> omega), cond_false]
        simp only [Bool.not_true, cond_false]
        rw [up1 j (by omega)]
        refine slow_loop k hk b0 a ha n (j + 1) q _ hlt (by omega) hst hslow (by omega) fun lo' hi' h' => ?_
        obtain ⟨rfl, rfl⟩ := hfm.uniq h'
        have := hd lo hi hf
        omega
      | false =>
        have hfm : FarOk (stepL m a).1 (gF lo) (gF hi) := by
          refine far_map hf _ gF gF_mono fun p hp => ?_
          have := (step_slow p (hs p hp) (stepL m a).2).2
          rw [hc] at this
          have e : (stepL m a).2 = decide (sumW 0 m ≤ a) := rfl
          rw [← e, hc]
          exact this
        rw [far_of k (by omega) _ hst hfm, e2]
        simp only [Option.bind_some]
        have hle : gF hi - gF lo ≤ (hi - lo + 1) / 2 := by unfold gF; split <;> split <;> omega
        rw [decide_eq_false (by split <;> omega), cond_false]
        simp only [Bool.not_false, cond_true]
        have hdv : (hi - lo + 1).tdiv 2 = (hi - lo + 1) / 2 := Int.tdiv_eq_ediv_of_nonneg (by omega)
        rw [i64_in (hi - lo + 1) (by omega), hdv, i64_in ((hi - lo + 1) / 2) (by omega), decide_eq_false (by omega), cond_false, up1 j (by omega), up1 q (by omega)]
        refine slow_loop k hk b0 a ha n (j + 1) (q + 1) _ hlt (by omega) hst hslow (by omega) fun lo' hi' h' => ?_
        obtain ⟨rfl, rfl⟩ := hfm.uniq h'
        have := hd lo hi hf
        show gF hi - gF lo ≤ (Dn q + 1) / 2
        omega
    · rw [decide_eq_false (by omega : ¬ ((j : Nat) : Int) < 200), cond_false, F25_true k (by omega), e2]
      by_cases h8 : (q : Int) < 8
      · rw [decide_eq_true h8]; rfl
      · rw [decide_eq_false h8, cond_false, Option.bind_some]
        have h1 := hd lo hi hf
        have h2 := Dn_small (q - 6)
        rw [show q - 6 + 6 = q by omega] at h2
        rw [decide_eq_true (by omega : hi - lo ≤ 2)]
        rfl

theorem F28_loop (k : Nat) (b0 : u8s) (b : u8s) (hb : BOk b) (hl : b.length ≤ 2000) : ∀ (n c : Nat) (p : Int) (m : List (den pace)), c < n → c ≤ 5 → 0 ≤ p → p + c < 2 ^ 20 → m.length + c ≤ 5 → 2 ≤ m.length + c → (∀ x ∈ m, SlowP x) →
    ∃ l a, F28_l0 k b0 n (c : Int) b p m = some (l, a) ∧ okAll l = true ∧ (∀ x ∈ l, SlowP x) ∧ inB a 1 1000 = true
  | 0, c, p, m, h, _, _, _, _, _, _ => by omega
  | n + 1, 0, p, m, h, hc, hp, hp2, hm, hm2, hs => by
    rw [F28_l0]
    rw [decide_eq_false (by omega : ¬ ((0 : Nat) : Int) > 0), cond_false]
    rw [i64_in (20 * ((m.length : Nat) : Int)) (by omega)]
    obtain ⟨r, e, q1, q2, _⟩ := F58_ok k b hb hl p (20 * ((m.length : Nat) : Int)) hp (by omega)
    have q2 := q2 (by omega)
    rw [e, Option.bind_some]
    refine ⟨m, IntKind.i64.wrap ((IntKind.i64.wrap (8 * ((m.length : Nat) : Int))) + r), rfl, ?_, hs, ?_⟩
    · unfold okAll inB
      rw [Bool.and_eq_true]
      refine ⟨by simp; omega, List.all_eq_true.2 fun x hx => (hs x hx).1⟩
    · rw [i64_in (8 * ((m.length : Nat) : Int)) (by omega), i64_in (8 * ((m.length : Nat) : Int) + r) (by omega)]
      unfold inB
      simp
      omega
  | n + 1, c + 1, p, m, h, hc, hp, hp2, hm, hm2, hs => by
    rw [F28_l0]
    rw [decide_eq_true (by omega : ((c + 1 : Nat) : Int) > 0), cond_true]
    obtain ⟨r, e, q1, q2, _⟩ := F58_ok k b hb hl p 40 hp (by omega)
    have q2 := q2 (by omega)
    rw [e, Option.bind_some]
    simp only
    rw [decide_eq_true (by simp; omega), cond_true, i64_in (4 + r) (by omega)]
    have : IntKind.i64.wrap (((c + 1 : Nat) : Int) - 1) = (c : Int) := by rw [i64_in _ (by omega)]; omega
    rw [this]
    refine F28_loop k b0 b hb hl n c (p + 1) (m ++ [(4 + r, 2, 0)]) (by omega) (by omega) (by omega) (by omega) (by simp; omega) (by simp; omega) fun x hx => ?_
    rcases List.mem_append.1 hx with hx | hx
    · exact hs x hx
    · have := List.mem_singleton.1 hx
      subst this
      exact ⟨(okB_iff (4 + r) 2 0).2 (by omega), by show (2 : Int) ≤ 4 + r; omega, rfl⟩
theorem F28_ok (k : Nat) (hk : 100 ≤ k) (b : u8s) (hb : BOk b) : ∃ l a, F28 k b = some (l, a) ∧ okAll l = true ∧ (∀ x ∈ l, SlowP x) ∧ inB a 1 1000 = true := by
  obtain ⟨b', h1, h2, h3⟩ := F56_ok k b hb
  obtain ⟨r, e, q1, q2, _⟩ := F58_ok k b' h2 h3 0 4 (by omega) (by omega)
  have q2 := q2 (by omega)
  unfold F28
  rw [h1, Option.bind_some]
  simp only
  rw [e, Option.bind_some]
  simp only
  rw [i64_in (2 + r) (by omega)]
  obtain ⟨c, hc⟩ := Int.eq_ofNat_of_zero_le (show 0 ≤ 2 + r by omega)
  rw [hc]
  exact F28_loop k b b' h2 h3 k c (0 + 1) [] (by omega) (by omega) (by omega) (by omega) (by simp; omega) (by simp; omega) (fun x hx => by cases hx)
theorem F9_true (k : Nat) (hk : 300 ≤ k) (b : u8s) (hb : BOk b) : F9 k b = some true := by
  unfold F9
  by_cases h : ((b.length : Nat) : Int) > 1048576
  · rw [decide_eq_true h]; rfl
  · rw [decide_eq_false h, cond_false]
    obtain ⟨l, a, h1, h2, h3, h4⟩ := F28_ok k (by omega) b hb
    rw [h1, Option.bind_some]
    obtain ⟨lo, hi, e1, e2, hf⟩ := far_spec k l (by have := (okAll_len h2).1; omega) h2
    rw [e1, e2]
    simp only [Option.bind_some, bne_self_eq_false, cond_false]
    refine slow_loop k hk b a h4 k 0 0 l (by omega) (by omega) h2 h3 (by omega) fun lo' hi' h' => ?_
    obtain ⟨c1, c2, c3⟩ := h'.bounds (okAll_len h2).2
    show hi' - lo' ≤ 63
    omega
theorem pure9 (l : u8s) (hw : Wf (.sl (.int .u8)) l) (_ : l.length * 1 ≤ 140737488351232) :
    ∃ k, (∀ l, Contract Try.prog 9 [.one (.l (.s .ro (.int .u8) l))] ⟨F9 k l, fun r => (.one (.v (.bool r)), [])⟩) ∧ F9 k l = some true := ⟨300, fun l => F9_con _ l, F9_true 300 (by omega) l (.of hw)⟩
end Go.Proofs.Ytkbaaipnjbcnlaa.Gn
end
