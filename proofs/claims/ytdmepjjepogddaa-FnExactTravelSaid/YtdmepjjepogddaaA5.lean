/-
  What the proof of this row needs, part 5: the typed evaluator of the translated code, the functions that the law reaches as plain functions, and what they answer.
-/
import Derived.Test.YtdmepjjepogddaaA4
section
namespace Go.Proofs.Ytdmepjjepogddaa.Gn
open Go.Rf Go.IntWalk
set_option linter.unusedVariables false
set_option linter.unusedSimpArgs false
def Q9 (v : Int) : Bo := [v / 256, v % 256]
theorem u8W (v : Int) (h : 0 ≤ v ∧ v ≤ 255) : IntKind.u8.wrap v = v := u8_in v h
theorem u8M (v : Int) : IntKind.u8.wrap v = v % 256 := by rw [IntKind.wrap_u8]
theorem Rg (n : Nat) (v : Int) (h : 0 ≤ v ∧ v ≤ 65535) : F95 (n + 4) v 2 = some (Q9 v) := by
 have w1 : IntKind.i64.wrap (2 - 1) = 1 := by decide
 have w0 : IntKind.i64.wrap (1 - 1) = 0 := by decide
 have wm : IntKind.i64.wrap (0 - 1) = -1 := by decide
 have hd : v.fdiv 256 = v / 256 := Int.fdiv_eq_ediv_of_nonneg v (by omega)
 have e8 : ((2 : Int) ^ 8) = 256 := by decide
 unfold F95 Xe; (try dsimp only)
 rw [w1]
 refine (ct (by decide)).trans ?_
 have aux : ∀ k m : Nat, Gu k v 2 (m + 1 + 1 + 1) v 1 (List.replicate (Int.toNat 2) (A9 (.int .u8))) = some (Q9 v) := fun k m => by
  rw [Gu]
  unfold Et; (try dsimp only [A2])
  refine (ct (by decide)).trans ((ct (by decide)).trans ((ct (by decide)).trans ?_))
  try dsimp only
  rw [w0, Gu]
  unfold Et; (try dsimp only [A2])
  refine (ct (by decide)).trans ((ct (by decide)).trans ((ct (by simp)).trans ?_))
  try dsimp only
  rw [wm, Gu]
  unfold Et; (try dsimp only [A2])
  refine (cf (by decide)).trans ?_
  rw [e8, hd, u8M, u8W (v / 256) (by omega)]
  rfl
 exact aux (n + 4) (n + 1)
theorem Q5 (n : Nat) (v : Int) (h : 0 ≤ v ∧ v ≤ 65535) : F77 (n + 4) v 2 = some (Q9 v) := by
 have w1 : IntKind.i64.wrap (2 - 1) = 1 := by decide
 have w0 : IntKind.i64.wrap (1 - 1) = 0 := by decide
 have wm : IntKind.i64.wrap (0 - 1) = -1 := by decide
 have hd : v.fdiv 256 = v / 256 := Int.fdiv_eq_ediv_of_nonneg v (by omega)
 have hd1 : v.fdiv 1 = v := by simp
 have e1 : ((2 : Int) ^ (min (IntKind.i64.wrap (8 * 1)).toNat 64)) = 256 := by decide
 have e0 : ((2 : Int) ^ (min (IntKind.i64.wrap (8 * 0)).toNat 64)) = 1 := by decide
 have i1 : inB 2 1 4 = true := by decide
 have i2 : inB v 0 (IntKind.i64.wrap ((IntKind.i64.wrap (1 * 2 ^ (min (IntKind.i64.wrap (8 * 2)).toNat 64))) - 1)) = true := by
  rw [show IntKind.i64.wrap ((IntKind.i64.wrap (1 * 2 ^ (min (IntKind.i64.wrap (8 * 2)).toNat 64))) - 1) = 65535 by decide]
  unfold inB
  rw [decide_eq_true h.1, decide_eq_true h.2]
  rfl
 unfold F77 V8; (try dsimp only)
 rw [B3, i1, Option.bind_some, w1]
 refine (cf rfl).trans ((cf (by decide)).trans ?_)
 rw [B3, i2, Option.bind_some]
 refine (cf rfl).trans ?_
 have aux : ∀ k m : Nat, G9 k v 2 (m + 1 + 1 + 1) 1 [] = some (Q9 v) := fun k m => by
  rw [G9]
  unfold Es; (try dsimp only [Dv])
  refine (ct (by decide)).trans ((cf (by decide)).trans ((ct (by simp)).trans ?_))
  try dsimp only
  rw [w0, G9]
  unfold Es; (try dsimp only [Dv])
  refine (ct (by decide)).trans ((cf (by decide)).trans ((ct (by simp)).trans ?_))
  try dsimp only
  rw [wm, G9]
  unfold Es; (try dsimp only [Dv])
  refine (cf (by decide)).trans ?_
  rw [e1, e0, hd, hd1, Int.tmod_eq_of_lt (by omega) (by omega), Int.tmod_eq_emod_of_nonneg h.1, u8W (v / 256) (by omega), u8W (v % 256) (by omega)]
  rfl
 exact aux (n + 4) (n + 1)
def Td (n : Int) : Int := if n > 65535 then n - 65535 else n
def Ya : Int → Bo → Int
 | s, [] => s
 | s, [x] => Td (s + x * 256)
 | s, x :: y :: r => Ya (Td (s + (x * 256 + y))) r
theorem K3 {n : Int} (h : 0 ≤ n ∧ n ≤ 131070) : 0 ≤ Td n ∧ Td n ≤ 65535 := by unfold Td; split <;> omega
theorem Xe2 {s x y : Int} (hs : 0 ≤ s ∧ s ≤ 65535) (hx : 0 ≤ x ∧ x ≤ 255) (hy : 0 ≤ y ∧ y ≤ 255) : Td (Td (s + x * 256) + y) = Td (s + (x * 256 + y)) := by
 unfold Td
 split <;> split <;> split <;> omega
theorem byt {l : Bo} (hb : BOk l) (j : Nat) (h : j < l.length) : @LE.le Int _ 0 l[j] ∧ @LE.le Int _ l[j] 255 := hb _ (List.getElem_mem h)
theorem Qy (k : Nat) (l : Bo) (hb : BOk l) (hl : l.length ≤ 1048576) : ∀ (n j : Nat) (s : Int), j % 2 = 0 → j ≤ l.length → l.length - j < n → (0 ≤ s ∧ s ≤ 65535) → Fe k l n s (j : Int) = some (Ya s (l.drop j))
 | 0, j, s, _, _, h, _ => by omega
 | 1, j, s, h2, hj, h, hs => by
  have : j = l.length := by omega
  subst this
  rw [Fe, List.drop_length]
  unfold Er; (try dsimp only [A2])
  exact (cf (decide_eq_false (by omega))).trans rfl
 | n + 2, j, s, h2, hj, h, hs => by
  rw [Fe]
  unfold Er; (try dsimp only [A2])
  rcases Nat.lt_or_ge j l.length with hlt | hge
  ·obtain ⟨x, hx⟩ : ∃ x : Int, x = l[j] := ⟨_, rfl⟩
   have bx : 0 ≤ x ∧ x ≤ 255 := by rw [hx]; exact byt hb j hlt
   have d1 : decide ((j : Int) < ((l.length : Nat) : Int)) = true := decide_eq_true (by omega)
   have d0 : decide ((0 : Int) ≤ ((j : Nat) : Int)) = true := decide_eq_true (by omega)
   have ev : (((j : Int).tmod 2) == 0) = true := by rw [Int.tmod_eq_emod_of_nonneg (by omega)]; exact beq_iff_eq.2 (by omega)
   have nxt : ∀ s1 : Int, s1 = Td (s + x * 256) → Fe k l (n + 1) s1 ((j + 1 : Nat) : Int) = some (Ya s (l.drop j)) := fun s1 hs1 => by
    have b1 := K3 (n := s + x * 256) (by omega)
    rw [← hs1] at b1
    rw [Fe]
    unfold Er; (try dsimp only [A2])
    rcases Nat.lt_or_ge (j + 1) l.length with hlt' | hge'
    ·obtain ⟨y, hy⟩ : ∃ y : Int, y = l[j + 1] := ⟨_, rfl⟩
     have by_ : 0 ≤ y ∧ y ≤ 255 := by rw [hy]; exact byt hb (j + 1) hlt'
     have od : ((((j + 1 : Nat) : Int).tmod 2) == 0) = false := by rw [Int.tmod_eq_emod_of_nonneg (by omega)]; exact beq_eq_false_iff_ne.2 (by omega)
     have e2 : Ya s (l.drop j) = Ya (Td (s + (x * 256 + y))) (l.drop (j + 2)) := by
      rw [List.drop_eq_getElem_cons hlt, List.drop_eq_getElem_cons hlt', Ya, ← hx, ← hy]
     have b2 := K3 (n := s1 + y) (by omega)
     rw [e2, ← Xe2 hs bx by_, ← hs1]
     refine (ct (decide_eq_true (by omega))).trans ((cf od).trans ((ct (decide_eq_true (by omega))).trans ((ct (decide_eq_true (by omega))).trans ?_)))
     rw [Av l (j + 1) hlt', ← hy, i64_in y (by omega), i64_in (s1 + y) (by omega), i64_in (s1 + y - 65535) (by omega), I3 (j + 1) (by omega)]
     unfold Td at b2 ⊢
     by_cases c : s1 + y > 65535
     ·rw [if_pos c] at b2 ⊢
      exact (ct (decide_eq_true c)).trans (Qy k l hb hl n (j + 2) _ (by omega) (by omega) (by omega) b2)
     ·rw [if_neg c] at b2 ⊢
      exact (cf (decide_eq_false c)).trans (Qy k l hb hl n (j + 2) _ (by omega) (by omega) (by omega) b2)
    ·have e1 : l.drop j = [l[j]] := by
      rw [List.drop_eq_getElem_cons hlt, List.drop_eq_nil_of_le (by omega)]
     rw [e1, Ya, ← hx, ← hs1]
     exact (cf (decide_eq_false (by omega))).trans rfl
   refine (ct d1).trans ((ct ev).trans ((ct d0).trans ((ct d1).trans ?_)))
   rw [Av l j hlt, ← hx, i64_in x (by omega), i64_in (x * 256) (by omega), i64_in (s + x * 256) (by omega), i64_in (s + x * 256 - 65535) (by omega), I3 j (by omega)]
   by_cases c : s + x * 256 > 65535
   ·exact (ct (decide_eq_true c)).trans (nxt _ (by unfold Td; rw [if_pos c]))
   ·exact (cf (decide_eq_false c)).trans (nxt _ (by unfold Td; rw [if_neg c]))
  ·have : j = l.length := by omega
   subst this
   rw [List.drop_length]
   exact (cf (decide_eq_false (by omega))).trans rfl
theorem Ip {α : Type} {N : Nat} (hN : 1 ≤ N) : Bm N ([] : List α) = [] := by
 unfold Bm
 rw [show (([] : List α).length + N - 1) / N = 0 from Nat.div_eq_of_lt (by simp; omega)]
 rfl
theorem Gs {α : Type} {N : Nat} (hN : 1 ≤ N) (l : List α) (h : l ≠ []) : Bm N l = l.take N :: Bm N (l.drop N) := by
 have hl : 1 ≤ l.length := List.length_pos_iff.2 h
 have hc : (l.length + N - 1) / N = ((l.drop N).length + N - 1) / N + 1 := by
  rw [List.length_drop]
  by_cases hle : N ≤ l.length
  ·rw [show l.length + N - 1 = (l.length - N + N - 1) + N by omega, Nat.add_div_right _ (by omega)]
  ·rw [show l.length - N = 0 by omega, Nat.zero_add, Nat.div_eq_of_lt (show N - 1 < N by omega)]
   exact Nat.div_eq_of_lt_le (by omega) (by omega)
 unfold Bm
 rw [hc, List.range_succ_eq_map, List.map_cons, List.map_map]
 congr 1
 ·simp [Ll]
 ·refine List.map_congr_left fun j _ => ?_
  simp only [Function.comp, Ll, List.drop_drop]
  congr 2
  rw [Nat.succ_mul]
  omega
theorem O6 (x y : Int) (hx : 0 ≤ x ∧ x ≤ 255) (hy : 0 ≤ y ∧ y ≤ 255) : Cj .or .i64 (x * 256) y = x * 256 + y := by
 obtain ⟨a, rfl⟩ := Int.eq_ofNat_of_zero_le hx.1
 obtain ⟨b, rfl⟩ := Int.eq_ofNat_of_zero_le hy.1
 have ha : a ≤ 255 := by omega
 have hb : b ≤ 255 := by omega
 have e : ((a : Int) * 256) = ((a * 256 : Nat) : Int) := by omega
 rw [e]
 have h1 : (BitVec.ofInt 64 ((a * 256 : Nat) : Int) ||| BitVec.ofInt 64 (b : Int)).toNat = a * 256 + b := by
  rw [BitVec.toNat_or]
  simp only [BitVec.ofInt_natCast, BitVec.toNat_ofNat]
  rw [Nat.mod_eq_of_lt (by omega), Nat.mod_eq_of_lt (by omega)]
  have := Nat.shiftLeft_add_eq_or_of_lt (show b < 2 ^ 8 by omega) a
  rw [Nat.shiftLeft_eq] at this
  exact this.symm
 show IntKind.i64.wrap (((BitVec.ofInt 64 ((a * 256 : Nat) : Int) ||| BitVec.ofInt 64 (b : Int)).toNat : Nat) : Int) = _
 rw [h1, i64_in _ (by omega)]
 omega
theorem Y2 {l : Bo} (hb : BOk l) {x : den (.int .u8)} (h : x ∈ l) : ∃ v : Int, v = x ∧ (0 ≤ v ∧ v ≤ 255) := ⟨x, rfl, hb x h⟩
theorem W8 (n : Nat) (s m : Int) (hs : 0 ≤ s ∧ s ≤ 65535) (hm : 0 ≤ m ∧ m ≤ 65535) : Tg (n + 4) [s, m] = some (Td (s + m)) := by
 have aux : ∀ k q : Nat, C9 k [s, m] (q + 1 + 1 + 1) 0 0 = some (Td (s + m)) := fun k q => by
  rw [C9]
  unfold Dc; (try dsimp only [A2])
  refine (ct rfl).trans ((ct rfl).trans ((ct rfl).trans ?_))
  rw [show Af (t := .int .i64) [s, m] 0 = s from rfl, Int.zero_add, i64_in s (by omega)]
  refine (cf (decide_eq_false (by omega))).trans ?_
  try dsimp only
  rw [show IntKind.i64.wrap (0 + 1) = 1 by decide, C9]
  unfold Dc; (try dsimp only [A2])
  refine (ct rfl).trans ((ct rfl).trans ((ct rfl).trans ?_))
  rw [show Af (t := .int .i64) [s, m] 1 = m from rfl, i64_in (s + m) (by omega), i64_in (s + m - 65535) (by omega), show IntKind.i64.wrap (1 + 1) = 2 by decide]
  have fin : ∀ r : Int, C9 k [s, m] (q + 1) r 2 = some r := fun r => by
   rw [C9]
   unfold Dc; (try dsimp only [A2])
   exact (cf rfl).trans rfl
  unfold Td
  by_cases c : s + m > 65535
  ·rw [if_pos c]
   exact (ct (decide_eq_true c)).trans (fin _)
  ·rw [if_neg c]
   exact (cf (decide_eq_false c)).trans (fin _)
 exact aux (n + 4) (n + 1)
theorem Xa (n : Nat) (a0 : Bo) : ∀ (m : Nat) (l : Bo) (s : Int), l.length ≤ m → BOk l → (0 ≤ s ∧ s ≤ 65535) → Dm (n + 4) a0 (Bm 2 l) s = some (65535 - Ya s l)
 | _, [], s, _, _, hs => by
  rw [Ip (by omega), Dm, Ya, i64_in _ (by omega)]
 | 0, _ :: _, _, h, _, _ => by simp at h
 | m + 1, [x], s, h, hb, hs => by
  obtain ⟨x, rfl, bx⟩ := Y2 hb (x := x) (by simp)
  have e8 : ((2 : Int) ^ 8) = 256 := by decide
  have b1 := K3 (n := s + x * 256) (by omega)
  rw [Gs (by omega) [x] (by simp)]
  simp only [List.take_succ_cons, List.take_nil, List.drop_succ_cons, List.drop_nil]
  rw [Dm]
  refine (ct (by simp)).trans ((cf (by simp)).trans ?_)
  rw [show Af (t := .int .u8) [x] 0 = x from rfl, e8, i64_in x (by omega), i64_in (x * 256) (by omega), W8 n s (x * 256) hs (by omega), Option.bind_some, Ip (by omega), Dm, Ya, i64_in _ (by omega)]
 | m + 1, x :: y :: r, s, h, hb, hs => by
  obtain ⟨x, rfl, bx⟩ := Y2 hb (x := x) (by simp)
  obtain ⟨y, rfl, by_⟩ := Y2 hb (x := y) (by simp)
  have e8 : ((2 : Int) ^ 8) = 256 := by decide
  have b1 := K3 (n := s + (x * 256 + y)) (by omega)
  rw [Gs (by omega) (x :: y :: r) (by simp)]
  simp only [List.take_succ_cons, List.take_zero, List.drop_succ_cons, List.drop_zero]
  rw [Dm]
  refine (ct (by simp)).trans ((ct (by simp)).trans ((ct (by simp)).trans ?_))
  rw [show Af (t := .int .u8) [x, y] 0 = x from rfl, show Af (t := .int .u8) [x, y] 1 = y from rfl, e8, i64_in x (by omega), i64_in y (by omega), i64_in (x * 256) (by omega), O6 x y bx by_, W8 n s (x * 256 + y) hs (by omega), Option.bind_some, Ya]
  exact Xa n a0 m r _ (by simp only [List.length_cons] at h; omega) (fun z hz => hb z (by simp [hz])) b1
theorem U2 : ∀ (l : Bo) (s : Int), BOk l → (0 ≤ s ∧ s ≤ 65535) → 0 ≤ Ya s l ∧ Ya s l ≤ 65535
 | [], s, _, hs => hs
 | [x], s, hb, hs => by
  obtain ⟨x, rfl, bx⟩ := Y2 hb (x := x) (by simp)
  exact K3 (by omega)
 | x :: y :: r, s, hb, hs => by
  obtain ⟨x, rfl, bx⟩ := Y2 hb (x := x) (by simp)
  obtain ⟨y, rfl, by_⟩ := Y2 hb (x := y) (by simp)
  exact U2 r _ (fun z hz => hb z (by simp [hz])) (K3 (by omega))
def Ti (l : Bo) : Int := 65535 - Ya 0 l
theorem Xpj (n : Nat) (l : Bo) (hb : BOk l) (hl : l.length ≤ 1048576) : F97 (n + 4) l = some (Ti l) := by
 unfold F97; (try dsimp only)
 rw [decide_eq_true (by omega : l.length ≤ 140737488355328)]
 exact Xa n l l.length l 0 (Nat.le_refl _) hb (by omega)
theorem Xmk (k : Nat) (l : Bo) (hb : BOk l) (hl : l.length ≤ 1048576) (hk : 1048576 < k) : F78 k l = some (Ti l) := by
 have := Qy k l hb hl k 0 0 rfl (Nat.zero_le _) (by omega) (by omega)
 have h2 := U2 l 0 hb (by omega)
 unfold F78 F90 Yl; (try dsimp only)
 refine (bs this).trans ?_
 rw [List.drop_zero, i64_in _ (by omega)]
 rfl
theorem Xfm (k : Nat) (a : Int) (h : 0 ≤ a ∧ a ≤ 16777216) : Xap k [] a = some [] := by
 unfold Xap Ru; (try dsimp only)
 rw [show a - 0 = a by omega, i64_in a (by omega)]
 refine (cf (decide_eq_false (by omega))).trans ?_
 by_cases c : a > 0
 ·refine (ct (decide_eq_true c)).trans ((ct (by rfl)).trans ?_)
  rw [decide_eq_true (by omega : 0 < a), decide_eq_true (by omega : a * (1 : Nat) ≤ 140737488355328)]
  refine (ct (by rfl)).trans ((ct ?_).trans ?_)
  ·rw [Bool.and_eq_true]; exact ⟨by rfl, decide_eq_true (by omega)⟩
  ·simp
 ·exact (cf (decide_eq_false c)).trans rfl
theorem Xeo (k : Nat) (l : List Bo) (hl : l.length ≤ 1048576) : ∀ (n j : Nat) (m : Bo), j ≤ l.length → l.length - j < n → m.length + (l.drop j).flatten.length ≤ 4194304 → Ku k l n (j : Int) m = some (m ++ (l.drop j).flatten)
 | 0, j, m, _, h, _ => by omega
 | n + 1, j, m, hj, h, hm => by
  rw [Ku]
  unfold Kb; (try dsimp only [A2, Dv])
  rcases Nat.lt_or_ge j l.length with hlt | hge
  ·rw [List.drop_eq_getElem_cons hlt, List.flatten_cons, List.length_append] at hm
   rw [List.drop_eq_getElem_cons hlt, List.flatten_cons, Av (t := .sl (.int .u8)) l j hlt, I3 j (by omega)]
   refine (ct (decide_eq_true (by omega))).trans ((ct (decide_eq_true (by omega))).trans ((ct (decide_eq_true (by omega))).trans ((ct (decide_eq_true (by omega))).trans ?_)))
   try dsimp only
   rw [Xeo k l hl n (j + 1) (m ++ l[j]) hlt (by omega) (by rw [List.length_append]; omega), List.append_assoc]
  ·have : j = l.length := by omega
   subst this
   rw [List.drop_length]
   refine (cf (decide_eq_false (by omega))).trans ?_
   simp
theorem Xbs (k : Nat) (l : List Bo) (hk : l.length < k) (hl : l.length ≤ 1048576) (ht : l.flatten.length ≤ 4194304) : ∀ (n j : Nat) (s : Int), j ≤ l.length → l.length - j < n → (0 ≤ s ∧ s + ((l.drop j).flatten.length : Int) ≤ 4194304) → K0 k l n s (j : Int) = some l.flatten
 | 0, j, s, _, h, _ => by omega
 | n + 1, j, s, hj, h, hm => by
  rw [K0]
  unfold J5; (try dsimp only [A2])
  rcases Nat.lt_or_ge j l.length with hlt | hge
  ·rw [List.drop_eq_getElem_cons hlt, List.flatten_cons, List.length_append] at hm
   rw [Av (t := .sl (.int .u8)) l j hlt, I3 j (by omega), i64_in (s + ((l[j].length : Nat) : Int)) (by omega)]
   refine (ct (decide_eq_true (by omega))).trans ((ct (decide_eq_true (by omega))).trans ((ct (decide_eq_true (by omega))).trans ((cf (decide_eq_false (by omega))).trans ?_)))
   exact Xbs k l hk hl ht n (j + 1) _ hlt (by omega) (by omega)
  ·have : j = l.length := by omega
   subst this
   rw [List.drop_length] at hm
   refine (cf (decide_eq_false (by omega))).trans ?_
   refine (bs (Xfm k s (by simp at hm; omega))).trans ?_
   have := Xeo k l hl k 0 [] (Nat.zero_le _) (by omega) (by rw [List.drop_zero]; simpa using ht)
   simpa using this
theorem Uq (k : Nat) (l : List Bo) (hk : l.length < k) (hl : l.length ≤ 1048576) (ht : l.flatten.length ≤ 4194304) : F94 k l = some l.flatten := by
 unfold F94 Vh; (try dsimp only)
 exact Xbs k l hk hl ht k 0 0 (Nat.zero_le _) (by omega) (by rw [List.drop_zero]; omega)
def Ir (v : Int) : den (.int .u8) := IntKind.u8.wrap v
theorem Rx (v : Int) : (Q9 v).length = 2 := rfl
theorem BOk.app {x y : Bo} (hx : BOk x) (hy : BOk y) : BOk (x ++ y) := fun z hz => (List.mem_append.1 hz).elim (hx z) (hy z)
theorem BOk.nil : BOk [] := fun z hz => by cases hz
theorem BOk.cons {v : Int} {x : Bo} (hx : BOk x) : BOk (Ir v :: x) := fun z hz => by
 rcases List.mem_cons.1 hz with rfl | hz
 ·have e : Ir v = v % 256 := u8M v
  rw [e]
  exact ⟨show (0 : Int) ≤ v % 256 by omega, show v % 256 ≤ (255 : Int) by omega⟩
 ·exact hx z hz
theorem Vb {v : Int} (h : 0 ≤ v ∧ v ≤ 65535) : BOk (Q9 v) := fun z hz => by
 rcases List.mem_cons.1 hz with rfl | hz
 ·exact ⟨show (0 : Int) ≤ v / 256 by omega, show v / 256 ≤ (255 : Int) by omega⟩
 ·obtain rfl := List.mem_singleton.1 hz
  exact ⟨show (0 : Int) ≤ v % 256 by omega, show v % 256 ≤ (255 : Int) by omega⟩
theorem Xec (k : Nat) (b : Bool) (v : Int) : F96 k b v = some (if b then v else 0) := by
 unfold F96; (try dsimp only)
 cases b <;> rfl
theorem V4 {l : Bo} (hb : BOk l) : 0 ≤ Ti l ∧ Ti l ≤ 65535 := by
 have := U2 l 0 hb (by omega)
 unfold Ti
 omega
end Go.Proofs.Ytdmepjjepogddaa.Gn
end

section
namespace Go.Proofs.Ytdmepjjepogddaa.Gn
open Go.Rf Go.IntWalk
set_option linter.unusedVariables false
set_option linter.unusedSimpArgs false
def rest (n : Int) : Int := 2 ^ (16 - n).toNat
theorem p2 (m : Nat) (h : m ≤ 16) : (1 : Int) ≤ 2 ^ m ∧ (2 : Int) ^ m ≤ 65536 := (by decide : ∀ m : Fin 17, (1 : Int) ≤ 2 ^ (m : Nat) ∧ (2 : Int) ^ (m : Nat) ≤ 65536) ⟨m, by omega⟩
theorem Mh {n : Int} (h : 0 ≤ n ∧ n ≤ 16) : 1 ≤ rest n ∧ rest n ≤ 65536 := p2 _ (by omega)
theorem Rl {n : Int} (h : 0 ≤ n ∧ n ≤ 16) : IntKind.i64.wrap (1 * 2 ^ (min (16 - n).toNat 64)) = rest n := by
 have := Mh h
 rw [Nat.min_eq_left (by omega), Int.one_mul]
 exact i64_in (rest n) (by omega)
theorem Up (k : Nat) {n : Int} (h : 0 ≤ n ∧ n ≤ 16) : F68 k n = some (rest n) := by
 unfold F68 Xt; (try dsimp only)
 rw [i64_in (16 - n) (by omega), Rl h]
 exact (cf (decide_eq_false (by omega))).trans rfl
def okR (r : den Br) : Bool := inB r.2.1 0 16 && inB r.1 0 65535 && (Int.tmod r.1 (rest r.2.1) == 0) && inB r.2.2.1 0 65535 && inB r.2.2.2 1 48
theorem B2 {a b c : Int} (h : inB a b c = true) : b ≤ a ∧ a ≤ c := by simpa [inB] using h
theorem Cu {a b c : Int} (h : b ≤ a ∧ a ≤ c) : inB a b c = true := by simpa [inB] using h
theorem Xdv (k : Nat) (r : den Br) : F64 k r = some (okR r) := by
 obtain ⟨v0, v1, v2, v3⟩ := r
 unfold F64 Xr okR; (try dsimp only [Ey])
 refine (bs (B3 k v1 0 16)).trans ?_
 try dsimp only
 cases h1 : inB v1 0 16 with
 | false => rfl
 | true =>
  have hr := Mh (B2 h1)
  refine (ct rfl).trans ((bs (B3 k v0 0 65535)).trans ?_)
  cases h2 : inB v0 0 65535 with
  | false => rfl
  | true =>
   refine (ct rfl).trans ((bs (Up k (B2 h1))).trans ((cf (decide_eq_false (by omega))).trans ?_))
   cases h3 : (Int.tmod v0 (rest v1) == 0) with
   | false => rfl
   | true =>
    refine (ct rfl).trans ((bs (B3 k v2 0 65535)).trans ?_)
    cases h4 : inB v2 0 65535 with
    | false => rfl
    | true => exact (ct rfl).trans ((bs (B3 k v3 1 48)).trans rfl)
theorem Xnf (k : Nat) (r : den Br) : F69 k r = some (okR r) := by
 obtain ⟨v0, v1, v2, v3⟩ := r
 unfold F69 Wm okR; (try dsimp only [Ey])
 refine (bs (G7 k v1 0 16)).trans ?_
 try dsimp only
 cases h1 : inB v1 0 16 with
 | false => rfl
 | true =>
  have hi := B2 h1
  have hr := Mh hi
  refine (ct rfl).trans ((bs (Im k v0)).trans ?_)
  cases h2 : inB v0 0 65535 with
  | false => rfl
  | true =>
   have e1 := i64_in (16 - v1) (by omega)
   refine (ct rfl).trans ((cf (by rw [e1]; exact decide_eq_false (by omega))).trans ((cf (by rw [e1, Rl hi]; exact decide_eq_false (by omega))).trans ?_))
   rw [e1, Rl hi]
   cases h3 : (Int.tmod v0 (rest v1) == 0) with
   | false => rfl
   | true =>
    refine (ct rfl).trans ((bs (Im k v2)).trans ?_)
    cases h4 : inB v2 0 65535 with
    | false => rfl
    | true => exact (ct rfl).trans ((bs (G7 k v3 1 48)).trans rfl)
theorem Mm {r : den Br} (h : okR r = true) : inB r.2.1 0 16 = true ∧ inB r.1 0 65535 = true ∧ inB r.2.2.1 0 65535 = true ∧ inB r.2.2.2 1 48 = true := by
 unfold okR at h
 simp only [Bool.and_eq_true] at h
 exact ⟨h.1.1.1.1, h.1.1.1.2, h.1.2, h.2⟩
def Ud (a b : Int) : Int := if a < b then -1 else if a > b then 1 else 0
def orV (a b : Int) : Int := if a ≠ 0 then a else b
theorem Xau (k : Nat) (a b : Int) : F82 k a b = some (Ud a b) := by
 unfold F82 Vv F92 Ud; (try dsimp only)
 simp only [bne_self_eq_false, Option.bind_some, cond_false]
 by_cases h1 : a < b
 ·rw [decide_eq_true h1, if_pos h1]; rfl
 ·rw [decide_eq_false h1, if_neg h1]
  by_cases h2 : a > b
  ·rw [decide_eq_true h2, if_pos h2]; rfl
  ·rw [decide_eq_false h2, if_neg h2]; rfl
theorem Xly (n : Nat) (a b : Int) : F81 (n + 4) [a, b] = some (orV a b) := by
 have aux : ∀ k m : Nat, F2 k [a, b] (m + 1 + 1 + 1) 0 = some (orV a b) := fun k m => by
  rw [F2]
  unfold Ew orV; (try dsimp only [A2])
  refine (ct rfl).trans ((ct rfl).trans ((ct rfl).trans ?_))
  rw [show Af (t := .int .i64) [a, b] 0 = a from rfl]
  by_cases h : a ≠ 0
  ·rw [if_pos h]
   exact (ct (bne_iff_ne.2 h)).trans rfl
  ·rw [if_neg h]
   refine (cf (bne_eq_false_iff_eq.2 (Decidable.not_not.1 h))).trans ?_
   rw [show IntKind.i64.wrap (0 + 1) = 1 by decide, F2]
   unfold Ew; (try dsimp only [A2])
   refine (ct rfl).trans ((ct rfl).trans ((ct rfl).trans ?_))
   rw [show Af (t := .int .i64) [a, b] 1 = b from rfl]
   by_cases h2 : b ≠ 0
   ·exact (ct (bne_iff_ne.2 h2)).trans rfl
   ·refine (cf (bne_eq_false_iff_eq.2 (Decidable.not_not.1 h2))).trans ?_
    rw [show IntKind.i64.wrap (1 + 1) = 2 by decide, F2]
    unfold Ew; (try dsimp only [A2])
    rw [Decidable.not_not.1 h2]
    exact (cf rfl).trans rfl
 exact aux (n + 4) (n + 1)
theorem Xmf (n : Nat) (p c : den Br) : F70 (n + 4) p c = some (orV (Ud p.2.1 c.2.1) (Ud p.1 c.1)) := by
 unfold F70 Xx; (try dsimp only)
 exact (bs (Xau _ _ _)).trans ((bs (Xau _ _ _)).trans ((bs (Xly _ _ _)).trans rfl))
def ltR (p1 p0 c1 c0 : Int) : Bool := decide (p1 < c1) || (decide (p1 = c1) && decide (p0 < c0))
theorem ordS {α : Type} (p1 p0 c1 c0 : Int) (x y : α) : cond (decide (p1 > c1)) x (cond (p1 == c1) (cond (decide (p0 ≥ c0)) x y) y) = cond (ltR p1 p0 c1 c0) y x := by
 unfold ltR
 rcases Int.lt_trichotomy p1 c1 with h | h | h
 ·rw [decide_eq_false (by omega : ¬ p1 > c1), decide_eq_true h, show (p1 == c1) = false from beq_eq_false_iff_ne.2 (by omega)]; rfl
 ·rw [decide_eq_false (by omega : ¬ p1 > c1), decide_eq_false (by omega : ¬ p1 < c1), decide_eq_true h, show (p1 == c1) = true from beq_iff_eq.2 h]
  by_cases h2 : p0 < c0
  ·rw [decide_eq_false (by omega : ¬ p0 ≥ c0), decide_eq_true h2]; rfl
  ·rw [decide_eq_true (by omega : p0 ≥ c0), decide_eq_false h2]; rfl
 ·rw [decide_eq_true (by omega : p1 > c1), decide_eq_false (by omega : ¬ p1 < c1), decide_eq_false (by omega : ¬ p1 = c1)]; rfl
theorem ordI {α : Type} (p1 p0 c1 c0 : Int) (x y : α) : cond (decide (orV (Ud p1 c1) (Ud p0 c0) ≥ 0)) x y = cond (ltR p1 p0 c1 c0) y x := by
 unfold ltR orV Ud
 rcases Int.lt_trichotomy p1 c1 with h | h | h
 ·rw [if_pos h, if_pos (by decide), decide_eq_true h]; rfl
 ·rw [if_neg (by omega : ¬ p1 < c1), if_neg (by omega : ¬ p1 > c1), if_neg (by decide), decide_eq_false (by omega : ¬ p1 < c1), decide_eq_true h]
  by_cases h2 : p0 < c0
  ·rw [if_pos h2, decide_eq_true h2]; rfl
  ·rw [if_neg h2, decide_eq_false h2]
   by_cases h3 : p0 > c0
   ·rw [if_pos h3]; rfl
   ·rw [if_neg h3]; rfl
 ·rw [if_neg (by omega : ¬ p1 < c1), if_pos h, if_pos (by decide), decide_eq_false (by omega : ¬ p1 < c1), decide_eq_false (by omega : ¬ p1 = c1)]; rfl
theorem rs_l (q : Nat) (v : rtL) (hl : v.length ≤ 1048576) : ∀ (n j : Nat), j ≤ v.length → v.length - j < n → ∃ b, Lc (q + 4) v n (j : Int) = some b ∧ Kk (q + 4) v n (j : Int) = some b ∧ (b = true → (∀ r ∈ v.drop j, okR r = true) ∧ v.length ≤ 8)
 | 0, j, _, h => by omega
 | n + 1, j, hj, h => by
  rw [Lc, Kk]
  unfold Js Kc; (try dsimp only [A2])
  rcases Nat.lt_or_ge j v.length with hlt | hge
  ·have d1 : decide ((j : Int) < ((v.length : Nat) : Int)) = true := decide_eq_true (by omega)
   have d0 : decide ((0 : Int) ≤ ((j : Nat) : Int)) = true := decide_eq_true (by omega)
   obtain ⟨b, hb1, hb2, hb3⟩ := rs_l q v hl n (j + 1) hlt (by omega)
   rw [Av v j hlt, I3 j (by omega), List.drop_eq_getElem_cons hlt, Xdv, Xnf]
   cases ho : okR v[j] with
   | false => exact ⟨false, (ct d1).trans ((ct d0).trans ((ct d1).trans rfl)), (ct d1).trans ((ct d0).trans ((ct d1).trans rfl)), fun h => by cases h⟩
   | true =>
    have hb4 : b = true → (∀ r ∈ v[j] :: v.drop (j + 1), okR r = true) ∧ v.length ≤ 8 := fun hb => ⟨fun r hr => (List.mem_cons.1 hr).elim (fun e => by rw [e]; exact ho) ((hb3 hb).1 r), (hb3 hb).2⟩
    rcases Nat.eq_zero_or_pos j with h0 | h0
    ·have g0 : decide ((j : Int) > 0) = false := decide_eq_false (by omega)
     exact ⟨b, (ct d1).trans ((ct d0).trans ((ct d1).trans ((bs rfl).trans ((cf rfl).trans ((cf g0).trans hb1))))), (ct d1).trans ((ct d0).trans ((ct d1).trans ((bs rfl).trans ((cf rfl).trans ((cf g0).trans hb2))))), hb4⟩
    ·have g0 : decide ((j : Int) > 0) = true := decide_eq_true (by omega)
     have e1 : IntKind.i64.wrap ((j : Int) - 1) = ((j - 1 : Nat) : Int) := by rw [i64_in _ (by omega)]; omega
     have q1 : decide (((j - 1 : Nat) : Int) < ((v.length : Nat) : Int)) = true := decide_eq_true (by omega)
     have q0 : decide ((0 : Int) ≤ ((j - 1 : Nat) : Int)) = true := decide_eq_true (by omega)
     rw [e1, Av v (j - 1) (by omega), Xmf]
     simp only [d1, d0, q1, q0, g0, cond_true, Option.bind_some, Bool.not_true, cond_false, hb1, hb2]
     refine ⟨cond (ltR v[j - 1].2.1 v[j - 1].1 v[j].2.1 v[j].1) b false, (ordS _ _ _ _ _ _).trans (Kj _ _ _), (ordI _ _ _ _ _ _).trans (Kj _ _ _), fun hc => ?_⟩
     cases hlt2 : ltR v[j - 1].2.1 v[j - 1].1 v[j].2.1 v[j].1 with
     | false => rw [hlt2] at hc; cases hc
     | true => rw [hlt2] at hc; exact hb4 hc
  ·have : j = v.length := by omega
   subst this
   rw [List.drop_length]
   have d1 : decide (((v.length : Nat) : Int) < ((v.length : Nat) : Int)) = false := decide_eq_false (by omega)
   exact ⟨decide (((v.length : Nat) : Int) ≤ 8), (cf d1).trans rfl, (cf d1).trans rfl, fun h => ⟨fun r hr => (by cases hr), by have := of_decide_eq_true h; omega⟩⟩
theorem Xsa (q : Nat) (v : rtL) (hl : v.length ≤ 1048576) (hk : 1048576 < q + 4) : ∃ b, F51 (q + 4) v = some b ∧ F55 (q + 4) v = some b ∧ (b = true → (∀ r ∈ v, okR r = true) ∧ v.length ≤ 8) := by
 have := rs_l q v hl (q + 4) 0 (Nat.zero_le _) (by omega)
 rw [List.drop_zero] at this
 exact this
structure StaOk (k : Nat) (s : den sta) : Prop where
 st : F38 k s = some true
 rs : F51 k s.2 = some true
 at1 : inB s.1 0 65535 = true
 ok : ∀ r ∈ s.2, okR r = true
 len : s.2.length ≤ 8
theorem Xq2 (q : Nat) (s : den sta) (hl : s.2.length ≤ 1048576) (hk : 1048576 < q + 4) : ∃ b, F38 (q + 4) s = some b ∧ F44 (q + 4) s = some b ∧ (b = true → StaOk (q + 4) s) := by
 obtain ⟨b, h1, h2, h3⟩ := Xsa q s.2 hl hk
 have e1 : F38 (q + 4) s = some (inB s.1 0 65535 && b) := by
  unfold F38; (try dsimp only)
  refine (bs (B3 _ _ _ _)).trans ?_
  cases inB s.1 0 65535 with
  | false => rfl
  | true => exact (ct rfl).trans ((bs h1).trans rfl)
 have e2 : F44 (q + 4) s = some (inB s.1 0 65535 && b) := by
  unfold F44; (try dsimp only)
  refine (bs (Im _ _)).trans ?_
  cases inB s.1 0 65535 with
  | false => rfl
  | true => exact (ct rfl).trans ((bs h2).trans rfl)
 refine ⟨_, e1, e2, fun h => ?_⟩
 rw [h] at e1
 rw [Bool.and_eq_true] at h
 rw [h.2] at h1
 exact ⟨e1, h1, h.1, (h3 h.2).1, (h3 h.2).2⟩
def R6 (s : den sta) (a : Int) : Bool := @BEq.beq Int _ s.1 a
def fi (a : Int) : L9 → Nat → Int
 | [], _ => -1
 | s :: l, j => cond (R6 s a) (j : Int) (fi a l (j + 1))
theorem Xg9 (k : Nat) (v : L9) (w : Int) (hl : v.length ≤ 1048576) : ∀ (n j : Nat), j ≤ v.length → v.length - j < n → Lb k v w n (j : Int) = some (fi w (v.drop j) j)
 | 0, j, _, h => by omega
 | n + 1, j, hj, h => by
  rw [Lb]
  unfold J2; (try dsimp only [A2])
  rcases Nat.lt_or_ge j v.length with hlt | hge
  ·have d1 : decide ((j : Int) < ((v.length : Nat) : Int)) = true := decide_eq_true (by omega)
   have d0 : decide ((0 : Int) ≤ ((j : Nat) : Int)) = true := decide_eq_true (by omega)
   rw [Av v j hlt, I3 j (by omega), List.drop_eq_getElem_cons hlt]
   refine (ct d1).trans ((ct d0).trans ((ct d1).trans ?_))
   rw [fi, Xg9 k v w hl n (j + 1) hlt (by omega)]
   exact Kj (R6 v[j] w) _ _
  ·have : j = v.length := by omega
   subst this
   rw [List.drop_length]
   exact (cf (decide_eq_false (by omega))).trans rfl
theorem Xoc (k : Nat) (v : L9) (w : Int) (hl : v.length ≤ 1048576) (hk : 1048576 < k) : F23 k v w = some (fi w v 0) := Xg9 k v w hl k 0 (Nat.zero_le _) (by omega)
theorem Xg0 (k : Nat) (v : L9) (wx w : Int) (hl : v.length ≤ 1048576) : ∀ (n j : Nat), j ≤ v.length → v.length - j < n → Ky k v wx n (j : Int) w = some (fi w (v.drop j) j, w)
 | 0, j, _, h => by omega
 | n + 1, j, hj, h => by
  rw [Ky]
  unfold Jd; (try dsimp only [A2])
  rcases Nat.lt_or_ge j v.length with hlt | hge
  ·have d1 : decide ((j : Int) < ((v.length : Nat) : Int)) = true := decide_eq_true (by omega)
   have d0 : decide ((0 : Int) ≤ ((j : Nat) : Int)) = true := decide_eq_true (by omega)
   rw [Av v j hlt, I3 j (by omega), List.drop_eq_getElem_cons hlt]
   refine (ct d1).trans ((ct d0).trans ((ct d1).trans ((bs (show F57 k v[j] w = some (R6 v[j] w, w) from rfl)).trans ?_)))
   rw [fi, Xg0 k v wx w hl n (j + 1) hlt (by omega)]
   cases R6 v[j] w <;> rfl
  ·have : j = v.length := by omega
   subst this
   rw [List.drop_length]
   exact (cf (decide_eq_false (by omega))).trans rfl
theorem Xet (k : Nat) (v : L9) (w : Int) (hl : v.length ≤ 1048576) (hk : 1048576 < k) : F45 k v w = some (fi w v 0) := by
 unfold F45; (try dsimp only)
 exact (bs (Xg0 k v w w hl k 0 (Nat.zero_le _) (by omega))).trans rfl
theorem Xf5 (a : Int) : ∀ (l : L9) (j : Nat), fi a l j = -1 ∨ ((j : Int) ≤ fi a l j ∧ fi a l j < (j : Int) + (l.length : Int))
 | [], j => .inl rfl
 | s :: l, j => by
  rw [fi]
  cases R6 s a with
  | true => right; simp only [cond_true, List.length_cons]; omega
  | false =>
   simp only [cond_false, List.length_cons]
   rcases Xf5 a l (j + 1) with h | h
   ·exact .inl h
   ·right; omega
theorem Ql (k : Nat) (v : L9) (i : Nat) (hi : i < v.length) (hl : v.length ≤ 1048576) : ∀ (n j : Nat), j ≤ i → i - j < n →
  (fi v[i].1 (v.drop j) j < (i : Int) ∧ ∃ y, Ig k v n (i : Int) (j : Int) = some (.inl y)) ∨ (fi v[i].1 (v.drop j) j = (i : Int) ∧ Ig k v n (i : Int) (j : Int) = some (.inr ((i : Int), (i : Int))))
 | 0, j, _, h => by omega
 | n + 1, j, hj, h => by
  have hjl : j < v.length := by omega
  have d1 : decide ((j : Int) < ((v.length : Nat) : Int)) = true := decide_eq_true (by omega)
  have d0 : decide ((0 : Int) ≤ ((j : Nat) : Int)) = true := decide_eq_true (by omega)
  have i1 : decide ((i : Int) < ((v.length : Nat) : Int)) = true := decide_eq_true (by omega)
  have i0 : decide ((0 : Int) ≤ ((i : Nat) : Int)) = true := decide_eq_true (by omega)
  rw [Ig]
  unfold Jh; (try dsimp only [A2])
  rw [Av v j hjl, Av v i hi, I3 j (by omega), List.drop_eq_getElem_cons hjl, fi]
  rcases Nat.lt_or_ge j i with hlt | hge
  ·have ji : decide ((j : Int) < (i : Int)) = true := decide_eq_true (by omega)
   cases hh : R6 v[j] v[i].1 with
   | true => exact .inl ⟨by simp only [cond_true]; omega, _, (ct ji).trans ((ct d0).trans ((ct d1).trans ((ct i0).trans ((ct i1).trans ((ct hh).trans rfl)))))⟩
   | false =>
    rw [cond_false]
    rcases Ql k v i hi hl n (j + 1) (by omega) (by omega) with ⟨h1, y, h2⟩ | ⟨h1, h2⟩
    ·exact .inl ⟨h1, y, (ct ji).trans ((ct d0).trans ((ct d1).trans ((ct i0).trans ((ct i1).trans ((cf hh).trans h2)))))⟩
    ·exact .inr ⟨h1, (ct ji).trans ((ct d0).trans ((ct d1).trans ((ct i0).trans ((ct i1).trans ((cf hh).trans h2)))))⟩
  ·have e : j = i := by omega
   subst e
   have hh : R6 v[j] v[j].1 = true := beq_self_eq_true _
   rw [hh]
   exact .inr ⟨rfl, (cf (decide_eq_false (by omega))).trans rfl⟩
theorem Xgi (q : Nat) (v : L9) (hl : v.length ≤ 1048576) (hs : E0 v ≤ 1048576) (hk : 1048576 < q + 4) : ∀ (n j : Nat), j ≤ v.length → v.length - j < n → ∃ b, I8 (q + 4) v n (j : Int) = some b ∧ Lg (q + 4) v n (j : Int) = some b ∧ (b = true → (∀ s ∈ v.drop j, StaOk (q + 4) s) ∧ v.length ≤ 5)
 | 0, j, _, h => by omega
 | n + 1, j, hj, h => by
  rw [I8, Lg]
  unfold Ji; (try dsimp only [A2])
  rcases Nat.lt_or_ge j v.length with hlt | hge
  ·have d1 : decide ((j : Int) < ((v.length : Nat) : Int)) = true := decide_eq_true (by omega)
   have d0 : decide ((0 : Int) ≤ ((j : Nat) : Int)) = true := decide_eq_true (by omega)
   have hs1 := Jj (List.getElem_mem hlt)
   obtain ⟨o, ho1, ho2, ho3⟩ := Xq2 q v[j] (by omega) hk
   obtain ⟨b, hb1, hb2, hb3⟩ := Xgi q v hl hs hk n (j + 1) hlt (by omega)
   rw [Av v j hlt, I3 j (by omega), List.drop_eq_getElem_cons hlt, ho1, ho2]
   have ef := Xet (q + 4) v v[j].1 hl hk
   have e0 := Ql (q + 4) v j hlt hl (q + 4) 0 (Nat.zero_le _) (by omega)
   rw [List.drop_zero] at e0
   cases o with
   | false => exact ⟨false, (ct d1).trans ((ct d0).trans ((ct d1).trans rfl)), (ct d1).trans ((ct d0).trans ((ct d1).trans rfl)), fun h => by cases h⟩
   | true =>
    rcases e0 with ⟨h1, y, h2⟩ | ⟨h1, h2⟩
    ·exact ⟨false, (ct d1).trans ((ct d0).trans ((ct d1).trans ((bs rfl).trans ((cf rfl).trans ((bs h2).trans rfl))))), (ct d1).trans ((ct d0).trans ((ct d1).trans ((bs rfl).trans ((cf rfl).trans ((bs ef).trans ((ct (decide_eq_true h1)).trans rfl)))))), fun h => by cases h⟩
    ·refine ⟨b, (ct d1).trans ((ct d0).trans ((ct d1).trans ((bs rfl).trans ((cf rfl).trans ((bs h2).trans ?_))))), (ct d1).trans ((ct d0).trans ((ct d1).trans ((bs rfl).trans ((cf rfl).trans ((bs ef).trans ((cf (decide_eq_false (by rw [h1]; omega))).trans hb2)))))), fun hb => ⟨fun s hs => ?_, (hb3 hb).2⟩⟩
     ·show I8 (q + 4) v n (IntKind.i64.wrap ((j : Int) + 1)) = some b
      rw [I3 j (by omega)]
      exact hb1
     ·rcases List.mem_cons.1 hs with e | e
      ·rw [e]; exact ho3 rfl
      ·exact (hb3 hb).1 s e
  ·have : j = v.length := by omega
   subst this
   rw [List.drop_length]
   have d1 : decide (((v.length : Nat) : Int) < ((v.length : Nat) : Int)) = false := decide_eq_false (by omega)
   exact ⟨decide (((v.length : Nat) : Int) ≤ 5), (cf d1).trans rfl, (cf d1).trans rfl, fun h => ⟨fun r hr => (by cases hr), by have := of_decide_eq_true h; omega⟩⟩
theorem Xlp (q : Nat) (v : L9) (hl : v.length ≤ 1048576) (hs : E0 v ≤ 1048576) (hk : 1048576 < q + 4) : ∃ b, F19 (q + 4) v = some b ∧ F26 (q + 4) v = some b ∧ (b = true → (∀ s ∈ v, StaOk (q + 4) s) ∧ v.length ≤ 5) := by
 have := Xgi q v hl hs hk (q + 4) 0 (Nat.zero_le _) (by omega)
 rw [List.drop_zero] at this
 exact this
end Go.Proofs.Ytdmepjjepogddaa.Gn
end

section
namespace Go.Proofs.Ytdmepjjepogddaa.Gn
open Go.Rf Go.IntWalk
set_option linter.unusedVariables false
set_option linter.unusedSimpArgs false
def a8 (b : Bo) (j : Nat) : Int := Af b (j : Int)
def n2 (b : Bo) (j : Nat) : Int := a8 b j * 256 + a8 b (j + 1)
theorem Ju {b : Bo} (hb : BOk b) {j : Nat} (h : j < b.length) : 0 ≤ a8 b j ∧ a8 b j ≤ 255 := by
 unfold a8; rw [Av b j h]; exact byt hb j h
theorem atI8 (b : Bo) (j : Nat) : @Eq Int (Af b (j : Int)) (a8 b j) := rfl
theorem cut2 (b : Bo) (j : Nat) (h : j + 2 ≤ b.length) : (b.take (j + 2)).drop j = [a8 b j, a8 b (j + 1)] := by
 have h1 : j < (b.take (j + 2)).length := by rw [List.length_take]; omega
 have h2 : j + 1 < (b.take (j + 2)).length := by rw [List.length_take]; omega
 rw [List.drop_eq_getElem_cons h1, List.drop_eq_getElem_cons h2, List.drop_eq_nil_of_le (by rw [List.length_take]; omega)]
 unfold a8
 rw [Av b j (by omega), Av b (j + 1) (by omega), List.getElem_take, List.getElem_take]
theorem Xli (q : Nat) (b : Bo) (hb : BOk b) (hl : b.length ≤ 1048576) (j : Nat) (h : j + 2 ≤ b.length) : F91 (q + 4) b (j : Int) 2 = some (n2 b j) := by
 have b1 := Ju hb (j := j) (by omega)
 have b2 := Ju hb (j := j + 1) (by omega)
 have i1 : inB 2 1 4 = true := by decide
 have i2 : inB (j : Int) 0 (IntKind.i64.wrap (((b.length : Nat) : Int) - 2)) = true := by
  rw [i64_in _ (by omega)]
  unfold inB
  rw [decide_eq_true (by omega), decide_eq_true (by omega)]
  rfl
 have e0 : IntKind.i64.wrap ((j : Int) + 0) = (j : Int) := by rw [i64_in _ (by omega)]; omega
 have e1 : IntKind.i64.wrap ((j : Int) + 1) = ((j + 1 : Nat) : Int) := I3 j (by omega)
 have w1 : IntKind.i64.wrap (0 + 1) = 1 := by decide
 have w2 : IntKind.i64.wrap (1 + 1) = 2 := by decide
 have w3 : IntKind.i64.wrap (0 * 256) = 0 := by decide
 unfold F91 Wl; (try dsimp only)
 refine (bs (B3 (q + 4) 2 1 4)).trans ?_
 rw [i1]
 refine (cf rfl).trans ?_
 refine (bs (B3 (q + 4) (j : Int) 0 _)).trans ?_
 rw [i2]
 refine (cf rfl).trans ?_
 have aux : ∀ k m : Nat, Gt k b (j : Int) 2 (m + 1 + 1 + 1) 0 0 = some (n2 b j) := fun k m => by
  rw [Gt]
  unfold Ez; (try dsimp only [A2])
  rw [e0, w1, w3]
  refine (ct rfl).trans ((ct (decide_eq_true (by omega))).trans ((ct (decide_eq_true (by omega))).trans ?_))
  rw [atI8 b j, i64_in (a8 b j) (by omega), Int.zero_add, i64_in (a8 b j) (by omega)]
  try dsimp only
  rw [Gt]
  unfold Ez; (try dsimp only [A2])
  rw [e1, w2]
  refine (ct rfl).trans ((ct (decide_eq_true (by omega))).trans ((ct (decide_eq_true (by omega))).trans ?_))
  rw [atI8 b (j + 1), i64_in (a8 b (j + 1)) (by omega), i64_in (a8 b j * 256) (by omega), i64_in _ (by omega)]
  try dsimp only
  rw [Gt]
  unfold Ez; (try dsimp only [A2])
  exact (cf rfl).trans rfl
 exact aux (q + 4) (q + 1)
theorem Xoj (q : Nat) (b : Bo) (hb : BOk b) (hl : b.length ≤ 1048576) (j : Nat) (h : j + 2 ≤ b.length) : F99 (q + 4) b (j : Int) 2 = some (n2 b j) := by
 have b1 := Ju hb (j := j) (by omega)
 have b2 := Ju hb (j := j + 1) (by omega)
 have i1 : inB 2 1 4 = true := by decide
 have e8 : ((2 : Int) ^ 8) = 256 := by decide
 have w1 : IntKind.i64.wrap (0 + 1) = 1 := by decide
 have w2 : IntKind.i64.wrap (1 + 1) = 2 := by decide
 have w3 : IntKind.i64.wrap (0 * 256) = 0 := by decide
 have e2 : IntKind.i64.wrap ((j : Int) + 2) = ((j + 2 : Nat) : Int) := by rw [i64_in _ (by omega)]; omega
 have c2 := cut2 b j h
 unfold F99 W9; (try dsimp only)
 refine (bs (G7 (q + 4) 2 1 4)).trans ?_
 rw [i1]
 refine (cf rfl).trans ?_
 refine (cf (decide_eq_false (by omega))).trans ?_
 refine (cf (decide_eq_false (by rw [i64_in _ (by omega)]; omega))).trans ?_
 rw [e2]
 refine (ct (by rw [decide_eq_true (by omega), decide_eq_true (by omega)]; rfl)).trans ?_
 refine (ct (by rw [decide_eq_true (by omega), decide_eq_true (by omega)]; rfl)).trans ?_
 have aux : ∀ k m : Nat, Gp k b (j : Int) 2 (m + 1 + 1 + 1) 0 0 = some (n2 b j) := fun k m => by
  rw [Gp]
  unfold Em; (try dsimp only [A2])
  rw [e2, Int.toNat_natCast, Int.toNat_natCast, c2, e8, w1, w3]
  refine (ct rfl).trans ((ct rfl).trans ((ct rfl).trans ?_))
  rw [show @Eq Int (Af (t := .int .u8) [a8 b j, a8 b (j + 1)] 0) (a8 b j) from rfl, i64_in (a8 b j) (by omega), show (0 : Int) = 0 * 256 from rfl, O6 0 (a8 b j) (by omega) b1]
  rw [show (0 : Int) * 256 + a8 b j = a8 b j by omega]
  try dsimp only
  rw [Gp]
  unfold Em; (try dsimp only [A2])
  rw [e2, Int.toNat_natCast, Int.toNat_natCast, c2, e8, w2]
  refine (ct rfl).trans ((ct rfl).trans ((ct rfl).trans ?_))
  rw [show @Eq Int (Af (t := .int .u8) [a8 b j, a8 b (j + 1)] 1) (a8 b (j + 1)) from rfl, i64_in (a8 b (j + 1)) (by omega), i64_in (a8 b j * 256) (by omega), O6 (a8 b j) (a8 b (j + 1)) b1 b2]
  try dsimp only
  rw [Gp]
  unfold Em; (try dsimp only [A2])
  rw [e2, Int.toNat_natCast, Int.toNat_natCast, c2]
  exact (cf rfl).trans rfl
 exact aux (q + 4) (q + 1)
theorem Xfh (k : Nat) (a b : Bo) (h9 : a.length ≤ 4194304) (k9 : a.length < k) : Yu k a b = some (decide (a = b)) := by
 unfold Yu Qw; (try dsimp only)
 by_cases hlen : a.length = b.length
 ·have := Xbq a b (fun n j => Fj k a b n j) hlen
   (fun n j h h' => by
    simp only [Fj, El, A2]
    rw [Av a j h, Av b j h', I3 j (by omega)]
    rw [decide_eq_true (by omega : ((j : Nat) : Int) < (a.length : Nat)), decide_eq_true (by omega : ((j : Nat) : Int) < (b.length : Nat)), decide_eq_true (by omega : (0 : Int) ≤ (j : Nat))]
    by_cases hc : a[j] = b[j]
    ·rw [if_pos hc, hc]; simp
    ·rw [if_neg hc, (bne_iff_ne (a := (a[j] : Int)) (b := b[j])).2 hc]; rfl)
   (fun n => by
    simp only [Fj, El, A2]
    rw [decide_eq_false (by omega : ¬ ((a.length : Nat) : Int) < (a.length : Nat))]; rfl) k 0 (Nat.zero_le _) (by omega)
  refine (cf (by rw [hlen]; simp)).trans ?_
  simpa using this
 ·refine (ct (by rw [bne_iff_ne]; omega)).trans ?_
  rw [decide_eq_false (fun h => hlen (by rw [h]))]
end Go.Proofs.Ytdmepjjepogddaa.Gn
end

section
namespace Go.Proofs.Ytdmepjjepogddaa.Gn
open Go.Rf Go.IntWalk
set_option linter.unusedVariables false
set_option linter.unusedSimpArgs false
def L2 (p : den An) : Bool := inB p.1 0 65535 && inB p.2.1 0 65535 && inB p.2.2.1 0 255 && inB p.2.2.2.1 0 255 && inB p.2.2.2.2.1 0 255 && inB p.2.2.2.2.2.1 0 255 && decide ((p.2.2.2.2.2.2.2.2.length : Int) ≤ 48) && (!p.2.2.2.2.2.2.1 || decide ((p.2.2.2.2.2.2.2.2.length : Int) > 0)) && (!p.2.2.2.2.2.2.2.1 || (@BEq.beq Int _ p.2.2.2.2.2.1 0 && !p.2.2.2.2.2.2.1))
theorem N0 (k : Nat) (p : den An) : F20 k p = some (L2 p) := by
 obtain ⟨v0, v1, v2, v3, v4, v5, v6, v7, v8⟩ := p
 unfold F20 Vj L2; (try dsimp only [Aw])
 simp only [B3, Option.bind_some]
 cases inB v0 0 65535; · rfl
 cases inB v1 0 65535; · rfl
 cases inB v2 0 255; · rfl
 cases inB v3 0 255; · rfl
 cases inB v4 0 255; · rfl
 cases inB v5 0 255; · rfl
 cases decide ((v8.length : Int) ≤ 48); · rfl
 cases v6 <;> cases v7 <;> cases decide ((v8.length : Int) > 0) <;> cases @BEq.beq Int _ v5 0 <;> rfl
theorem Xes (k : Nat) (p : den An) : F28 k p = some (L2 p) := by
 obtain ⟨v0, v1, v2, v3, v4, v5, v6, v7, v8⟩ := p
 unfold F28 W0 L2; (try dsimp only [Aw])
 simp only [G7, Im, Option.bind_some]
 cases inB v0 0 65535; · rfl
 cases inB v1 0 65535; · rfl
 cases inB v2 0 255; · rfl
 cases inB v3 0 255; · rfl
 cases inB v4 0 255; · rfl
 cases inB v5 0 255; · rfl
 cases decide ((v8.length : Int) ≤ 48); · rfl
 cases v6 <;> cases v7 <;> cases decide ((v8.length : Int) > 0) <;> cases @BEq.beq Int _ v5 0 <;> rfl
theorem Ch {v0 v1 v2 v3 v4 v5 : Int} {v6 v7 : Bool} {v8 : Bo} (h : L2 (v0, v1, v2, v3, v4, v5, v6, v7, v8) = true) : (0 ≤ v0 ∧ v0 ≤ 65535) ∧ (0 ≤ v1 ∧ v1 ≤ 65535) ∧ (0 ≤ v2 ∧ v2 ≤ 255) ∧ (0 ≤ v3 ∧ v3 ≤ 255) ∧ (0 ≤ v4 ∧ v4 ≤ 255) ∧ (0 ≤ v5 ∧ v5 ≤ 255) ∧ v8.length ≤ 48 ∧ (v6 = true → 0 < v8.length) ∧ (v7 = true → v5 = 0 ∧ v6 = false) := by
 unfold L2 at h
 simp only [Bool.and_eq_true, Bool.or_eq_true, Bool.not_eq_true', decide_eq_true_eq, beq_iff_eq] at h
 obtain ⟨⟨⟨⟨⟨⟨⟨⟨q0, q1⟩, q2⟩, q3⟩, q4⟩, q5⟩, q6⟩, q7⟩, q8⟩ := h
 refine ⟨B2 q0, B2 q1, B2 q2, B2 q3, B2 q4, B2 q5, by omega, fun e => ?_, fun e => ?_⟩
 ·rcases q7 with q | q
  ·rw [e] at q; cases q
  ·omega
 ·rcases q8 with q | q
  ·rw [e] at q; cases q
  ·exact q
theorem T7 {v0 v1 v2 v3 v4 v5 : Int} {v6 v7 : Bool} {v8 : Bo} (h0 : 0 ≤ v0 ∧ v0 ≤ 65535) (h1 : 0 ≤ v1 ∧ v1 ≤ 65535) (h2 : 0 ≤ v2 ∧ v2 ≤ 255) (h3 : 0 ≤ v3 ∧ v3 ≤ 255) (h4 : 0 ≤ v4 ∧ v4 ≤ 255) (h5 : 0 ≤ v5 ∧ v5 ≤ 255) (h6 : v8.length ≤ 48) (h7 : v6 = true → 0 < v8.length) (h8 : v7 = true → v5 = 0 ∧ v6 = false) : L2 (v0, v1, v2, v3, v4, v5, v6, v7, v8) = true := by
 unfold L2
 simp only [Bool.and_eq_true, Bool.or_eq_true, Bool.not_eq_true', decide_eq_true_eq, beq_iff_eq]
 refine ⟨⟨⟨⟨⟨⟨⟨⟨Cu h0, Cu h1⟩, Cu h2⟩, Cu h3⟩, Cu h4⟩, Cu h5⟩, by omega⟩, ?_⟩, ?_⟩
 ·cases v6 with
  | false => exact .inl rfl
  | true => have := h7 rfl; right; omega
 ·cases v7 with
  | false => exact .inl rfl
  | true => exact .inr (h8 rfl)
def flP (v6 v7 : Bool) : Int := cond v6 (cond v7 3 1) (cond v7 2 0)
def hdP (v0 v1 v2 v3 v4 v5 : Int) (v6 v7 : Bool) (n : Int) : Bo := Q9 v0 ++ Q9 v1 ++ [Ir v2, Ir v3, Ir v4, Ir v5, Ir (flP v6 v7), Ir n]
def pkB (v0 v1 v2 v3 v4 v5 : Int) (v6 v7 : Bool) (v8 : Bo) : Bo := hdP v0 v1 v2 v3 v4 v5 v6 v7 (v8.length : Int) ++ Q9 (Ti (hdP v0 v1 v2 v3 v4 v5 v6 v7 (v8.length : Int))) ++ v8
theorem Rw (v0 v1 v2 v3 v4 v5 : Int) (v6 v7 : Bool) (n : Int) : (hdP v0 v1 v2 v3 v4 v5 v6 v7 n).length = 10 := rfl
theorem Wh {v0 v1 : Int} (h0 : 0 ≤ v0 ∧ v0 ≤ 65535) (h1 : 0 ≤ v1 ∧ v1 ≤ 65535) (v2 v3 v4 v5 : Int) (v6 v7 : Bool) (n : Int) : BOk (hdP v0 v1 v2 v3 v4 v5 v6 v7 n) :=
 ((Vb h0).app (Vb h1)).app BOk.nil.cons.cons.cons.cons.cons.cons
theorem Xz (v0 v1 v2 v3 v4 v5 : Int) (v6 v7 : Bool) (v8 : Bo) : (pkB v0 v1 v2 v3 v4 v5 v6 v7 v8).length = 12 + v8.length := by
 unfold pkB
 rw [List.length_append, List.length_append, Rw, Rx]
theorem Xnd (q : Nat) {v0 v1 v2 v3 v4 v5 : Int} {v6 v7 : Bool} {v8 : Bo} (h : L2 (v0, v1, v2, v3, v4, v5, v6, v7, v8) = true) : F76 (q + 4) (v0, v1, v2, v3, v4, v5, v6, v7, v8) = some (hdP v0 v1 v2 v3 v4 v5 v6 v7 (v8.length : Int)) := by
 obtain ⟨h0, h1, _⟩ := Ch h
 have e : F89 (q + 4) (v0, v1, v2, v3, v4, v5, v6, v7, v8) = some (flP v6 v7) := by
  unfold F89 flP; (try dsimp only)
  cases v6 <;> cases v7 <;> rfl
 unfold F76 Wd; (try dsimp only [Dv, Aw])
 refine (bs (Q5 q v0 h0)).trans ((bs (Q5 q v1 h1)).trans ((ct rfl).trans ((bs e).trans ((ct rfl).trans rfl))))
theorem Xlk (q : Nat) {v0 v1 v2 v3 v4 v5 : Int} {v6 v7 : Bool} {v8 : Bo} (h : L2 (v0, v1, v2, v3, v4, v5, v6, v7, v8) = true) (hk : 1048576 < q + 4) : F65 (q + 4) (v0, v1, v2, v3, v4, v5, v6, v7, v8) = some (pkB v0 v1 v2 v3 v4 v5 v6 v7 v8) := by
 obtain ⟨h0, h1, _, _, _, _, h6, _⟩ := Ch h
 have hB := Wh h0 h1 v2 v3 v4 v5 v6 v7 (v8.length : Int)
 have hl := Rw v0 v1 v2 v3 v4 v5 v6 v7 (v8.length : Int)
 unfold F65 W6; (try dsimp only [Dv])
 refine (bs (N0 (q + 4) _)).trans ?_
 rw [h]
 refine (cf rfl).trans ((bs (Xnd q h)).trans ((bs (Xmk (q + 4) _ hB (by omega) hk)).trans ((bs (Q5 q _ (V4 hB))).trans ?_)))
 refine (ct (decide_eq_true (by rw [hl, Rx]; omega))).trans ((ct (decide_eq_true (by rw [List.length_append, hl, Rx]; show (10 + 2 + v8.length) * 1 ≤ _; omega))).trans rfl)
theorem Xlt (q : Nat) {v0 v1 v2 v3 v4 v5 : Int} {v6 v7 : Bool} {v8 : Bo} (h : L2 (v0, v1, v2, v3, v4, v5, v6, v7, v8) = true) (hk : 1048576 < q + 4) : F85 (q + 4) (v0, v1, v2, v3, v4, v5, v6, v7, v8) = some (pkB v0 v1 v2 v3 v4 v5 v6 v7 v8) := by
 obtain ⟨h0, h1, _, _, _, _, h6, _⟩ := Ch h
 have hB := Wh h0 h1 v2 v3 v4 v5 v6 v7 (v8.length : Int)
 have hl := Rw v0 v1 v2 v3 v4 v5 v6 v7 (v8.length : Int)
 have hf : IntKind.i64.wrap ((if v6 = true then 1 else 0) + (if v7 = true then 2 else 0)) = flP v6 v7 := by unfold flP; cases v6 <;> cases v7 <;> decide
 unfold F85 X7; (try dsimp only [Aw])
 refine (bs (Rg q v0 h0)).trans ((bs (Rg q v1 h1)).trans ((bs (Xec (q + 4) v6 1)).trans ((bs (Xec (q + 4) v7 2)).trans ?_)))
 rw [hf]
 have c1 := Uq (q + 4) [Q9 v0, Q9 v1, [Ir v2, Ir v3, Ir v4, Ir v5, Ir (flP v6 v7), Ir (v8.length : Int)]] (show 3 < q + 4 by omega) (by show 3 ≤ 1048576; omega) (by show 10 ≤ 4194304; omega)
 have e1 : [Q9 v0, Q9 v1, [Ir v2, Ir v3, Ir v4, Ir v5, Ir (flP v6 v7), Ir (v8.length : Int)]].flatten = hdP v0 v1 v2 v3 v4 v5 v6 v7 (v8.length : Int) := rfl
 rw [e1] at c1
 refine (bs c1).trans ((bs (Xpj q _ hB (by omega))).trans ((bs (Rg q _ (V4 hB))).trans ?_))
 have e2 : [hdP v0 v1 v2 v3 v4 v5 v6 v7 (v8.length : Int), Q9 (Ti (hdP v0 v1 v2 v3 v4 v5 v6 v7 (v8.length : Int))), v8].flatten = pkB v0 v1 v2 v3 v4 v5 v6 v7 v8 := by simp [pkB]
 have c2 := Uq (q + 4) [hdP v0 v1 v2 v3 v4 v5 v6 v7 (v8.length : Int), Q9 (Ti (hdP v0 v1 v2 v3 v4 v5 v6 v7 (v8.length : Int))), v8] (show 3 < q + 4 by omega) (by show 3 ≤ 1048576; omega) (by rw [e2, Xz]; omega)
 rw [e2] at c2
 exact (bs c2).trans rfl
def Q6 (a b : Int) (n : Nat) : Bool := inB a 1 6 && inB b 0 65535 && decide ((n : Int) ≤ 20)
theorem Xbk (k : Nat) (a b : Int) (l : Bo) : F79 k (a, b, l) = some (Q6 a b l.length) := by
 unfold F79 Xn Q6; (try dsimp only)
 simp only [B3, Option.bind_some]
 cases inB a 1 6; · rfl
 cases inB b 0 65535 <;> rfl
theorem Xe5 (k : Nat) (a b : Int) (l : Bo) : Xah k (a, b, l) = some (Q6 a b l.length) := by
 unfold Xah Q2 Q6; (try dsimp only)
 simp only [G7, Im, Option.bind_some]
 cases inB a 1 6; · rfl
 cases inB b 0 65535 <;> rfl
def X1 (a b : Int) (l : Bo) : Bo := cond (Q6 a b l.length) ([Ir a] ++ Q9 b ++ [Ir (l.length : Int)] ++ l) []
theorem Mc {a b : Int} {n : Nat} (h : Q6 a b n = true) : (1 ≤ a ∧ a ≤ 6) ∧ (0 ≤ b ∧ b ≤ 65535) ∧ n ≤ 20 := by
 unfold Q6 at h
 simp only [Bool.and_eq_true, decide_eq_true_eq] at h
 exact ⟨B2 h.1.1, B2 h.1.2, by omega⟩
theorem Xok (q : Nat) (a b : Int) (l : Bo) : F66 (q + 4) (a, b, l) = some (X1 a b l) := by
 unfold F66 Xc X1; (try dsimp only [Dv, u_2])
 refine (bs (Xbk (q + 4) a b l)).trans ?_
 cases h : Q6 a b l.length with
 | false => rfl
 | true =>
  obtain ⟨_, h2, h3⟩ := Mc h
  refine (cf rfl).trans ((bs (Q5 q b h2)).trans ((ct rfl).trans ((ct rfl).trans ((ct (decide_eq_true ?_)).trans rfl))))
  show (4 + l.length) * 1 ≤ _
  omega
theorem Xbg (q : Nat) (a b : Int) (l : Bo) (hk : 1048576 < q + 4) : F98 (q + 4) (a, b, l) = some (X1 a b l) := by
 unfold F98 Wx X1; (try dsimp only [u_2])
 refine (bs (Xe5 (q + 4) a b l)).trans ?_
 cases h : Q6 a b l.length with
 | false => rfl
 | true =>
  obtain ⟨_, h2, h3⟩ := Mc h
  have e1 : [[Ir a], Q9 b, [Ir (l.length : Int)], l].flatten = [Ir a] ++ Q9 b ++ [Ir (l.length : Int)] ++ l := by simp
  have c1 := Uq (q + 4) [[Ir a], Q9 b, [Ir (l.length : Int)], l] (show 4 < q + 4 by omega) (by show 4 ≤ 1048576; omega) (by rw [e1]; show l.length + 1 + 1 + 1 + 1 ≤ 4194304; omega)
  rw [e1] at c1
  exact (cf rfl).trans ((bs (Rg q b h2)).trans ((bs c1).trans rfl))
theorem Qu {a b : Int} {l : Bo} (h : Q6 a b l.length = true) : (X1 a b l).length = 4 + l.length ∧ l.length ≤ 20 := by
 unfold X1
 rw [h]
 exact ⟨show l.length + 1 + 1 + 1 + 1 = 4 + l.length by omega, (Mc h).2.2⟩
def noF (v : Bo) : (Int × (Int × Bo)) × Bool := cond (decide (4 ≤ v.length) && Q6 (a8 v 0) (n2 v 1) (v.drop 4).length && (a8 v 3 == ((v.drop 4).length : Int))) ((a8 v 0, n2 v 1, v.drop 4), true) ((0, 0, []), false)
theorem w8 {v : Bo} (hb : BOk v) {j : Nat} (h : j < v.length) : IntKind.i64.wrap (a8 v j) = a8 v j := by
 have := Ju hb h
 exact i64_in _ (by omega)
theorem Xkr (q : Nat) (v : Bo) (hb : BOk v) (hl : v.length ≤ 1048576) : F80 (q + 4) v = some (noF v) := by
 unfold F80 Vm noF; (try dsimp only [Dv])
 by_cases h : v.length < 4
 ·rw [decide_eq_false (by omega : ¬ 4 ≤ v.length)]
  exact (ct (decide_eq_true (by omega))).trans rfl
 ·rw [decide_eq_true (by omega : 4 ≤ v.length)]
  refine (cf (decide_eq_false (by omega))).trans ((ct (decide_eq_true (by omega))).trans ((bs (Xli q v hb hl 1 (by omega))).trans ?_))
  refine (ct (by rw [decide_eq_true (by omega : (4 : Int) ≤ (v.length : Int))]; rfl)).trans ((ct (decide_eq_true (by simp only [List.length_nil, List.length_drop]; omega))).trans ?_)
  rw [List.nil_append, show IntKind.i64.wrap (Af v 0) = a8 v 0 from w8 hb (j := 0) (by omega), show IntKind.i64.wrap (Af v 3) = a8 v 3 from w8 hb (j := 3) (by omega)]
  refine (bs (Xbk (q + 4) (a8 v 0) (n2 v 1) (v.drop 4))).trans ?_
  cases Q6 (a8 v 0) (n2 v 1) (v.drop 4).length with
  | false => rfl
  | true =>
   refine (cf rfl).trans ((ct (decide_eq_true (by omega))).trans ?_)
   cases hc : (a8 v 3 == ((v.drop 4).length : Int)) with
   | true => exact (cf (by rw [bne, hc]; rfl)).trans rfl
   | false => exact (ct (by rw [bne, hc]; rfl)).trans rfl
theorem four (v : Bo) (h : 4 ≤ v.length) : v = a8 v 0 :: a8 v 1 :: a8 v 2 :: a8 v 3 :: v.drop 4 := by
 obtain _ | ⟨a, _ | ⟨b, _ | ⟨c, _ | ⟨d, r⟩⟩⟩⟩ := v
 ·simp at h
 ·simp at h
 ·simp at h
 ·simp at h
 ·rfl
theorem Xlz (q : Nat) (v : Bo) (hb : BOk v) (hl : v.length ≤ 1048576) (hk : 1048576 < q + 4) : F93 (q + 4) v = some (noF v) := by
 unfold F93 Yf noF; (try dsimp only)
 by_cases h : v.length < 4
 ·rw [decide_eq_false (by omega : ¬ 4 ≤ v.length)]
  exact (ct (decide_eq_true (by omega))).trans rfl
 ·have hv := four v (by omega)
  have q0 := Ju hb (j := 0) (by omega)
  have q1 := Ju hb (j := 1) (by omega)
  have q2 := Ju hb (j := 2) (by omega)
  have q3 := Ju hb (j := 3) (by omega)
  have hd : (v.drop 4).length = v.length - 4 := List.length_drop
  rw [decide_eq_true (by omega : 4 ≤ v.length)]
  refine (cf (decide_eq_false (by omega))).trans ((ct (decide_eq_true (by omega))).trans ((bs (Xoj q v hb hl 1 (by omega))).trans ?_))
  refine (ct (by rw [decide_eq_true (by omega : (4 : Int) ≤ (v.length : Int))]; rfl)).trans ((bs (U0 (q + 4) (v.drop 4) (by omega))).trans ?_)
  rw [show IntKind.i64.wrap (Af v 0) = a8 v 0 from w8 hb (j := 0) (by omega)]
  refine (bs (Xbg q (a8 v 0) (n2 v 1) (v.drop 4) hk)).trans ?_
  have hnl : (X1 (a8 v 0) (n2 v 1) (v.drop 4)).length ≤ 24 := by
   cases ho : Q6 (a8 v 0) (n2 v 1) (v.drop 4).length with
   | false => unfold X1; rw [ho]; simp
   | true => have := Qu ho; omega
  refine (bs (Xfh (q + 4) _ v (by omega) (by omega))).trans ?_
  have key : decide (X1 (a8 v 0) (n2 v 1) (v.drop 4) = v) = (Q6 (a8 v 0) (n2 v 1) (v.drop 4).length && (a8 v 3 == ((v.drop 4).length : Int))) := by
   cases ho : Q6 (a8 v 0) (n2 v 1) (v.drop 4).length with
   | false =>
    unfold X1
    rw [ho]
    exact decide_eq_false (fun e => by rw [← e] at h; simp at h)
   | true =>
    obtain ⟨_, h2, h3⟩ := Mc ho
    unfold X1
    rw [ho, Bool.true_and, cond_true]
    have e0 : Ir (a8 v 0) = a8 v 0 := u8W _ q0
    have e1 : n2 v 1 / 256 = a8 v 1 := by show (a8 v 1 * 256 + a8 v 2) / 256 = _; omega
    have e2 : n2 v 1 % 256 = a8 v 2 := by show (a8 v 1 * 256 + a8 v 2) % 256 = _; omega
    have e3 : Ir ((v.drop 4).length : Int) = ((v.drop 4).length : Int) := u8W _ (by omega)
    by_cases c : a8 v 3 = ((v.drop 4).length : Int)
    ·rw [show (a8 v 3 == ((v.drop 4).length : Int)) = true from beq_iff_eq.2 c]
     refine decide_eq_true ?_
     rw [e0, e3, ← c]
     show a8 v 0 :: n2 v 1 / 256 :: n2 v 1 % 256 :: a8 v 3 :: v.drop 4 = v
     rw [e1, e2]
     exact hv.symm
    ·rw [show (a8 v 3 == ((v.drop 4).length : Int)) = false from beq_eq_false_iff_ne.2 c]
     refine decide_eq_false (fun e => c ?_)
     have e4 := congrArg (fun l => a8 l 3) e
     have e5 : Ir ((v.drop 4).length : Int) = a8 v 3 := e4
     exact e5.symm.trans e3
  rw [key]
  cases Q6 (a8 v 0) (n2 v 1) (v.drop 4).length <;> cases (a8 v 3 == ((v.drop 4).length : Int)) <;> rfl
def H7 (k2 : Int) (v : Bo) : Bool := (noF v).2 && (@BEq.beq Int _ k2 1) && decide ((noF v).1.1 ≥ 3)
theorem Xo2 (q : Nat) (p : den An) (hb : BOk p.2.2.2.2.2.2.2.2) (hl : p.2.2.2.2.2.2.2.2.length ≤ 1048576) : F67 (q + 4) p = some (H7 p.2.2.1 p.2.2.2.2.2.2.2.2) := by
 unfold F67 Wn H7; (try dsimp only)
 refine (bs (Xkr q _ hb hl)).trans ?_
 cases (noF p.2.2.2.2.2.2.2.2).2; · rfl
 refine (ct rfl).trans ?_
 cases @BEq.beq Int _ p.2.2.1 1 <;> rfl
theorem Xky (q : Nat) (p : den An) (hb : BOk p.2.2.2.2.2.2.2.2) (hl : p.2.2.2.2.2.2.2.2.length ≤ 1048576) (hk : 1048576 < q + 4) : F84 (q + 4) p = some (H7 p.2.2.1 p.2.2.2.2.2.2.2.2) := by
 unfold F84 Yk H7; (try dsimp only)
 refine (bs (Xlz q _ hb hl hk)).trans ?_
 cases (noF p.2.2.2.2.2.2.2.2).2; · rfl
 refine (ct rfl).trans ?_
 cases @BEq.beq Int _ p.2.2.1 1 <;> rfl
def noP : den An := (0, 0, 0, 0, 0, 0, false, false, [])
def Qc (v0 v1 v2 v3 v4 v5 : Int) (v6 v7 : Bool) (v8 : Bo) (w p q : Int) : den An × Bool :=
 cond (!H7 v2 v8 && @BEq.beq Int _ v5 0) ((w, v0, 1, 64, v4, 0, false, false, X1 p q ((pkB v0 v1 v2 v3 v4 v5 v6 v7 v8).take 20)), true) (noP, false)
theorem tk20 (l : Bo) (n : Nat) (hl : l.length = n) : (l.take (if 20 < (n : Int) then 20 else (n : Int)).toNat).drop 0 = l.take 20 ∧ 0 ≤ (if 20 < (n : Int) then 20 else (n : Int)) ∧ (if 20 < (n : Int) then 20 else (n : Int)) ≤ (n : Int) := by
 by_cases c : 20 < (n : Int)
 ·rw [if_pos c]
  exact ⟨rfl, by omega, by omega⟩
 ·rw [if_neg c]
  refine ⟨?_, by omega, by omega⟩
  rw [Int.toNat_natCast, List.drop_zero, List.take_of_length_le (by omega), List.take_of_length_le (by omega)]
theorem Xk7 (n : Nat) {v0 v1 v2 v3 v4 v5 : Int} {v6 v7 : Bool} {v8 : Bo} (h : L2 (v0, v1, v2, v3, v4, v5, v6, v7, v8) = true) (hb : BOk v8) (hk : 1048576 < n + 4) {w p q : Int} (hw : inB w 0 65535 = true) (hp : 3 ≤ p ∧ p ≤ 6) (hq : 0 ≤ q ∧ q ≤ 65535) :
  F52 (n + 4) (v0, v1, v2, v3, v4, v5, v6, v7, v8) w p q = some (Qc v0 v1 v2 v3 v4 v5 v6 v7 v8 w p q) := by
 obtain ⟨h0, h1, _, _, _, h5, h6, _⟩ := Ch h
 have hl := Xz v0 v1 v2 v3 v4 v5 v6 v7 v8
 obtain ⟨t1, t2, t3⟩ := tk20 (pkB v0 v1 v2 v3 v4 v5 v6 v7 v8) _ rfl
 have ho : Q6 p q ((pkB v0 v1 v2 v3 v4 v5 v6 v7 v8).take 20).length = true := by
  unfold Q6
  rw [Cu (show 1 ≤ p ∧ p ≤ 6 by omega), Cu hq, List.length_take]
  exact decide_eq_true (by omega)
 have hn := Qu ho
 unfold F52 Xw Qc; (try dsimp only)
 refine (bs (Xlk n h hk)).trans ((ct (by rw [decide_eq_true t2, decide_eq_true t3]; rfl)).trans ?_)
 rw [t1]
 refine (bs (Xok n _ _ _)).trans ((bs (N0 _ _)).trans ?_)
 rw [h]
 refine (cf rfl).trans ((bs (B3 _ _ _ _)).trans ?_)
 rw [hw]
 refine (cf rfl).trans ((bs (B3 _ _ _ _)).trans ?_)
 rw [Cu hp]
 refine (cf rfl).trans ((cf (beq_eq_false_iff_ne.2 (by omega))).trans ((bs (Xo2 n _ hb (show v8.length ≤ 1048576 by omega))).trans ?_))
 show cond (H7 v2 v8) _ _ = _
 cases H7 v2 v8 with
 | true => rfl
 | false =>
  refine (cf rfl).trans ?_
  by_cases c : v5 = 0
  ·subst c
   exact (cf (decide_eq_false (by show ¬ (0 : Int) > 0; omega))).trans rfl
  ·rw [show @BEq.beq Int _ v5 0 = false from beq_eq_false_iff_ne.2 c]
   exact (ct (decide_eq_true (by show v5 > 0; omega))).trans rfl
theorem Xm4 (n : Nat) {v0 v1 v2 v3 v4 v5 : Int} {v6 v7 : Bool} {v8 : Bo} (h : L2 (v0, v1, v2, v3, v4, v5, v6, v7, v8) = true) (hb : BOk v8) (hk : 1048576 < n + 4) {w p q : Int} (hw : inB w 0 65535 = true) (hp : 3 ≤ p ∧ p ≤ 6) (hq : 0 ≤ q ∧ q ≤ 65535) :
  F72 (n + 4) (v0, v1, v2, v3, v4, v5, v6, v7, v8) w p q = some (Qc v0 v1 v2 v3 v4 v5 v6 v7 v8 w p q) := by
 obtain ⟨h0, h1, _, _, _, h5, h6, _⟩ := Ch h
 obtain ⟨t1, t2, t3⟩ := tk20 (pkB v0 v1 v2 v3 v4 v5 v6 v7 v8) _ rfl
 unfold F72 V5 Qc; (try dsimp only)
 refine (bs (Xes _ _)).trans ?_
 rw [h]
 refine (cf rfl).trans ((bs (Im _ _)).trans ?_)
 rw [hw]
 refine (cf rfl).trans ?_
 by_cases c : v5 = 0
 ·subst c
  refine (cf (by decide)).trans ((bs (Xky n _ hb (show v8.length ≤ 1048576 by omega) hk)).trans ?_)
  show cond (H7 v2 v8) _ _ = _
  cases H7 v2 v8 with
  | true => rfl
  | false =>
   refine (cf rfl).trans ((bs (G7 _ _ _ _)).trans ?_)
   rw [Cu hp]
   refine (cf rfl).trans ((bs (Im _ _)).trans ?_)
   rw [Cu hq]
   refine (cf rfl).trans ((bs (Xlt n h hk)).trans ((ct (by rw [decide_eq_true t2, decide_eq_true t3]; rfl)).trans ?_))
   rw [t1]
   unfold F86; (try dsimp only)
   rw [Xbg n _ _ _ hk]
   rfl
 ·rw [show @BEq.beq Int _ v5 0 = false from beq_eq_false_iff_ne.2 c, Bool.and_false]
  exact (ct (bne_iff_ne.2 c)).trans rfl
def Ms (b : den An × Bool) : den Ma := cond b.2 (3, 0, [b.1]) (0, 0, [])
theorem Xn0 {k : Nat} {s : den sta} {w : den An} {p q : Int} {b : den An × Bool} (h : F52 k w s.1 p q = some b) : F40 k s w p q = some (Ms b) := by
 unfold F40 Ms; (try dsimp only)
 refine (bs h).trans ?_
 cases b.2 <;> rfl
theorem Xo5 {k : Nat} {s : den sta} {w : den An} {p q : Int} {b : den An × Bool} (h : F72 k w s.1 p q = some b) : F59 k s w p q = some (Ms b) := by
 unfold F59 Ms; (try dsimp only)
 refine (bs h).trans ?_
 cases b.2 <;> rfl
end Go.Proofs.Ytdmepjjepogddaa.Gn
end

section
namespace Go.Proofs.Ytdmepjjepogddaa.Gn
open Go.Rf Go.IntWalk
set_option linter.unusedVariables false
set_option linter.unusedSimpArgs false
theorem Xox (k : Nat) {r : den Br} {w : Int} (ho : okR r = true) (hw : inB w 0 65535 = true) : F53 k r w = some (Rt.Pd w r) := by
 obtain ⟨a, n, g, m⟩ := r
 obtain ⟨h1, h2, _⟩ := Mm ho
 have hn := B2 h1
 have ha := B2 h2
 have hx := B2 hw
 have hr : 1 ≤ rest n ∧ rest n ≤ 65536 := Mh hn
 unfold F53 Xo Rt.Pd; (try dsimp only)
 refine (bs (Xdv k _)).trans ?_
 rw [ho]
 refine (ct rfl).trans ((bs (B3 _ _ _ _)).trans ?_)
 rw [hw]
 have hz : ¬ rest n = 0 := by omega
 refine (ct rfl).trans ((bs (Up k hn)).trans ((cf (decide_eq_false hz)).trans ((bs (Up k hn)).trans ((cf (decide_eq_false hz)).trans ?_))))
 have e : ∀ x : Int, 0 ≤ x ∧ x ≤ 65535 → IntKind.i64.wrap (x.tdiv (rest n)) = x.fdiv (rest n) := fun x hx => by
  rw [Int.tdiv_eq_ediv_of_nonneg hx.1, Int.fdiv_eq_ediv_of_nonneg x (by omega)]
  have h1 := Int.ediv_nonneg hx.1 (show 0 ≤ rest n by omega)
  have h2 := Int.ediv_le_self (rest n) hx.1
  exact i64_in _ (by omega)
 show some (IntKind.i64.wrap (w.tdiv (rest n)) == IntKind.i64.wrap (Int.tdiv a (rest n))) = some (w.fdiv (rest n) == Int.fdiv a (rest n))
 rw [e w hx, e a ha]
theorem Xie (k : Nat) (v : rtL) (w : Int) (hl : v.length ≤ 1048576) (hr : F51 k v = some true) (ho : ∀ r ∈ v, okR r = true) (hw : inB w 0 65535 = true) : ∀ (j n : Nat), j ≤ v.length → j < n → Ih k v w n ((j : Int) - 1) = some (Rt.Dw w 17 (v.take j).reverse)
 | _, 0, _, h => by omega
 | 0, n + 1, _, _ => by
  rw [Ih]
  unfold G3; (try dsimp only [A2])
  exact (cf (decide_eq_false (by omega))).trans rfl
 | j + 1, n + 1, hj, h => by
  have hlt : j < v.length := by omega
  have d1 : decide ((j : Int) < ((v.length : Nat) : Int)) = true := decide_eq_true (by omega)
  have d0 : decide ((0 : Int) ≤ ((j : Nat) : Int)) = true := decide_eq_true (by omega)
  have e1 : (((j + 1 : Nat) : Int) - 1) = (j : Int) := by omega
  have ok := ho _ (List.getElem_mem hlt)
  have hn := B2 (Mm ok).1
  rw [Ih]
  unfold G3; (try dsimp only [A2])
  rw [e1, i64_in ((j : Int) - 1) (by omega), Av v j hlt, Xie k v w hl hr ho hw j n (by omega) (by omega), List.take_add_one, List.getElem?_eq_getElem hlt]
  refine (ct (decide_eq_true (by omega))).trans ((bs hr).trans ((ct rfl).trans ((ct d0).trans ((ct d1).trans ((bs (Xox k ok hw)).trans ?_)))))
  rw [Option.toList_some, List.reverse_append, List.reverse_singleton, List.singleton_append, Rt.Dw]
  rw [show decide (@LT.lt Int _ v[j].2.1 17) = true from decide_eq_true (by omega), Bool.true_and]
  cases Rt.Pd w v[j] with
  | true => exact (ct rfl).trans ((ct d0).trans ((ct d1).trans rfl))
  | false => rfl
theorem Xpd (k : Nat) (v : rtL) (w : Int) (hl : v.length ≤ 8) (hr : F51 k v = some true) (ho : ∀ r ∈ v, okR r = true) (hw : inB w 0 65535 = true) (hk : 1048576 < k) : F41 k v w = some (Rt.Dw w 17 v.reverse) := by
 have := Xie k v w (by omega) hr ho hw v.length k (Nat.le_refl _) (by omega)
 rw [List.take_length] at this
 unfold F41 Wb; (try dsimp only)
 rw [i64_in ((v.length : Int) - 1) (by omega)]
 exact this
theorem Xn3 (k : Nat) (v : rtL) (w : Int) (hl : v.length ≤ 8) (ho : ∀ r ∈ v, okR r = true) : F60 k v w 17 = some (Rt.Dw w 17 v.reverse) := by
 unfold F60 Rt.to; (try dsimp only)
 refine ct ?_
 rw [Bool.and_eq_true]
 refine ⟨List.all_eq_true.2 fun r hr => ?_, decide_eq_true (by omega)⟩
 exact (Mm (ho r hr)).1
theorem Tk (w p : Int) : ∀ {l : rtL}, (Rt.Dw w p l).2 = true → (Rt.Dw w p l).1 ∈ l
 | [], h => by cases h
 | r :: l, h => by
  rw [Rt.Dw] at h ⊢
  cases hc : (decide (@LT.lt Int _ r.2.1 p) && Rt.Pd w r) with
  | true => rw [hc] at h; exact List.mem_cons_self ..
  | false => rw [hc] at h; exact List.mem_cons_of_mem _ (Tk w p h)
def L7 (v0 v1 v2 v3 v4 : Int) (v7 : Bool) (a : Int) (m : Bool) (d : Bo) : den An := (v0, v1, v2, v3, v4, a, m, v7, d)
def C8 (g : Int → Bool → Bo → den An) (N : Nat) (f : Bool) : Nat → Int → Bo → Fs
 | 0, _, _ => []
 | c + 1, a, d => if d.length ≤ N then [g a f d] else g a true (d.take N) :: C8 g N f c (a + (N : Int)) (d.drop N)
def Ef (N : Nat) : Nat → Int → Bo → Int
 | 0, a, _ => a
 | c + 1, a, d => if d.length ≤ N then a else Ef N c (a + (N : Int)) (d.drop N)
theorem Nm (N : Nat) : ∀ (c : Nat) (a : Int) (d : Bo), a ≤ Ef N c a d
 | 0, a, d => Int.le_refl _
 | c + 1, a, d => by
  rw [Ef]
  split
  ·exact Int.le_refl _
  ·have := Nm N c (a + (N : Int)) (d.drop N)
   omega
def J9 (g : Int → Bool → Bo → den An) (N : Nat) (f : Bool) (m : Fs) (c : Nat) (a : Int) (d : Bo) : Fs × Bool := cond (decide (Ef N c a d > 255)) ([], false) (m ++ C8 g N f c a d, true)
theorem win (l : Bo) (x N : Nat) : (l.take (x + min N (l.length - x))).drop x = (l.drop x).take N := by
 rw [List.drop_take, Nat.add_sub_cancel_left]
 by_cases h : N ≤ l.length - x
 ·rw [Nat.min_eq_left h]
 ·rw [Nat.min_eq_right (by omega), List.take_of_length_le (by rw [List.length_drop]; omega), List.take_of_length_le (by rw [List.length_drop]; omega)]
theorem Xh0 (k : Nat) (v0 v1 v2 v3 v4 v5 : Int) (v6 v7 : Bool) (v8 : Bo) (N : Nat) (h5 : 0 ≤ v5 ∧ v5 ≤ 255) (h8 : v8.length ≤ 48) (hN : 1 ≤ N ∧ N ≤ 48) : ∀ (c n x : Nat) (m : Fs), x = 0 ∨ x < v8.length → v8.length - x < c → c < n → m.length + c ≤ 200 →
  Fl k (v0, v1, v2, v3, v4, v5, v6, v7, v8) (N : Int) n (x : Int) m = some (J9 (L7 v0 v1 v2 v3 v4 v7) N v6 m c (v5 + (x : Int)) (v8.drop x))
 | 0, _, _, _, _, h, _, _ => by omega
 | _, 0, _, _, _, _, h, _ => by omega
 | c + 1, n + 1, x, m, hx, hc, hn, hm => by
  have hxl : x ≤ v8.length := by omega
  rw [Fl]
  unfold Fv; (try dsimp only)
  have step : Ev k (v0, v1, v2, v3, v4, v5, v6, v7, v8) (N : Int) (Fl k (v0, v1, v2, v3, v4, v5, v6, v7, v8) (N : Int) n) some (x : Int) m = some (J9 (L7 v0 v1 v2 v3 v4 v7) N v6 m (c + 1) (v5 + (x : Int)) (v8.drop x)) := by
   have hme : (if ((v8.length : Nat) : Int) < (x : Int) + (N : Int) then ((v8.length : Nat) : Int) else (x : Int) + (N : Int)) = ((x + min N (v8.length - x) : Nat) : Int) := by split <;> omega
   have hd : (v8.drop x).length = v8.length - x := List.length_drop
   have g1 : (decide ((0 : Int) ≤ ((x + min N (v8.length - x) : Nat) : Int)) && decide (((x + min N (v8.length - x) : Nat) : Int) ≤ ((v8.length : Nat) : Int))) = true := by rw [decide_eq_true (by omega), decide_eq_true (by omega)]; rfl
   have g2 : (decide ((0 : Int) ≤ (x : Int)) && decide ((x : Int) ≤ ((x + min N (v8.length - x) : Nat) : Int))) = true := by rw [decide_eq_true (by omega), decide_eq_true (by omega)]; rfl
   have g3 : decide ((([] : Bo).length + ((v8.drop x).take N).length) * 1 ≤ 140737488355328) = true := decide_eq_true (by rw [List.length_take, hd, List.length_nil]; omega)
   have g4 : decide ((m.length + 1) * 80 ≤ 140737488355328) = true := decide_eq_true (by omega)
   have lg := Nm N (c + 1) (v5 + (x : Int)) (v8.drop x)
   have nx : ∀ b : Bool, b = (if (v8.drop x).length ≤ N then v6 else true) → ¬ v5 + (x : Int) > 255 → Fl k (v0, v1, v2, v3, v4, v5, v6, v7, v8) (N : Int) n ((x : Int) + (N : Int)) (m ++ [L7 v0 v1 v2 v3 v4 v7 (v5 + (x : Int)) b ((v8.drop x).take N)]) = some (J9 (L7 v0 v1 v2 v3 v4 v7) N v6 m (c + 1) (v5 + (x : Int)) (v8.drop x)) := fun b hb ha => by
    have e1 : (x : Int) + (N : Int) = ((x + N : Nat) : Int) := by omega
    rw [e1]
    by_cases hlast : (v8.drop x).length ≤ N
    ·rw [if_pos hlast] at hb
     obtain ⟨n', rfl⟩ : ∃ n', n = n' + 1 := ⟨n - 1, by omega⟩
     rw [Fl]
     unfold Fv; (try dsimp only)
     refine (cf (beq_eq_false_iff_ne.2 (by omega))).trans ((cf (decide_eq_false (by omega))).trans ?_)
     unfold J9
     rw [Ef, if_pos hlast, C8, if_pos hlast, decide_eq_false ha, List.take_of_length_le hlast, hb]
     rfl
    ·rw [if_neg hlast] at hb
     have := Xh0 k v0 v1 v2 v3 v4 v5 v6 v7 v8 N h5 h8 hN c n (x + N) (m ++ [L7 v0 v1 v2 v3 v4 v7 (v5 + (x : Int)) b ((v8.drop x).take N)]) (.inr (by omega)) (by omega) (by omega) (by rw [List.length_append, List.length_singleton]; omega)
     rw [this]
     unfold J9
     rw [Ef, if_neg hlast, C8, if_neg hlast, hb, List.drop_drop, List.append_assoc, List.singleton_append]
     rw [show v5 + ((x + N : Nat) : Int) = v5 + (x : Int) + (N : Int) by omega]
   unfold Ev; (try dsimp only [Dv, Aw])
   rw [i64_in ((x : Int) + (N : Int)) (by omega), hme, i64_in (v5 + (x : Int)) (by omega), Int.toNat_natCast, Int.toNat_natCast, win, List.nil_append, List.length_singleton]
   by_cases ha : v5 + (x : Int) > 255
   ·have fin : some (([] : Fs), false) = some (J9 (L7 v0 v1 v2 v3 v4 v7) N v6 m (c + 1) (v5 + (x : Int)) (v8.drop x)) := by
     unfold J9
     rw [decide_eq_true (by omega : Ef N (c + 1) (v5 + (x : Int)) (v8.drop x) > 255)]
     rfl
    cases v6 with
    | true => exact (ct rfl).trans ((ct g1).trans ((ct g2).trans ((ct g3).trans ((ct (decide_eq_true ha)).trans fin))))
    | false => exact (cf rfl).trans ((ct g1).trans ((ct g2).trans ((ct g3).trans ((ct (decide_eq_true ha)).trans fin))))
   ·cases v6 with
    | true => exact (ct rfl).trans ((ct g1).trans ((ct g2).trans ((ct g3).trans ((cf (decide_eq_false ha)).trans ((ct g4).trans (nx true (by split <;> rfl) ha))))))
    | false =>
     refine (cf rfl).trans ((ct g1).trans ((ct g2).trans ((ct g3).trans ((cf (decide_eq_false ha)).trans ((ct g4).trans (nx _ ?_ ha))))))
     by_cases hlast : (v8.drop x).length ≤ N
     ·rw [if_pos hlast]; exact decide_eq_false (by omega)
     ·rw [if_neg hlast]; exact decide_eq_true (by omega)
  rcases hx with h0 | h0
  ·subst h0
   exact (ct rfl).trans step
  ·by_cases hz : x = 0
   ·subst hz
    exact (ct rfl).trans step
   ·exact (cf (beq_eq_false_iff_ne.2 (by omega))).trans ((ct (decide_eq_true (by omega))).trans step)
theorem Xlh (k : Nat) {v0 v1 v2 v3 v4 v5 : Int} {v6 v7 : Bool} {v8 : Bo} {N : Nat} (h : L2 (v0, v1, v2, v3, v4, v5, v6, v7, v8) = true) (hN : 1 ≤ N ∧ N ≤ 48) (h7 : v7 = true → v8.length ≤ N) (hk : 1048576 < k) :
  F42 k (v0, v1, v2, v3, v4, v5, v6, v7, v8) (N : Int) = some (J9 (L7 v0 v1 v2 v3 v4 v7) N v6 [] 50 v5 v8) := by
 obtain ⟨_, _, _, _, _, h5, h8, _⟩ := Ch h
 have := Xh0 k v0 v1 v2 v3 v4 v5 v6 v7 v8 N h5 h8 hN 50 k 0 [] (.inl rfl) (by omega) (by omega) (by simp)
 rw [List.drop_zero, show v5 + ((0 : Nat) : Int) = v5 by omega] at this
 unfold F42 Wa; (try dsimp only)
 refine (bs (N0 k _)).trans ?_
 rw [h]
 refine (cf rfl).trans ((bs (B3 k _ _ _)).trans ?_)
 rw [Cu (show 1 ≤ (N : Int) ∧ (N : Int) ≤ 48 by omega)]
 refine (cf rfl).trans ?_
 by_cases c : (v8.length : Int) > (N : Int)
 ·refine (ct (decide_eq_true c)).trans ?_
  cases v7 with
  | true => have := h7 rfl; omega
  | false => exact (cf rfl).trans this
 ·exact (cf (decide_eq_false c)).trans this
theorem Xb2 (k : Nat) (l : Fs) : F62 k l = some l := by
 unfold F62 Yc; (try dsimp only)
 rw [decide_eq_true (by omega : (0 : Int) ≤ ((l.length : Nat) : Int)), decide_eq_true (Int.le_refl _)]
 simp
theorem Xji (k : Nat) (v0 v1 v2 v3 v4 v5 : Int) (v6 : Bool) (v8 : Bo) (N : Nat) (hN : 1 ≤ N) : ∀ (c : Nat) (d : Bo) (m : Fs) (a : Int), d ≠ [] → d.length < c → m.length + c ≤ 200 → 0 ≤ a ∧ a + (d.length : Int) ≤ 1000 →
  Fy k (v0, v1, v2, v3, v4, v5, v6, false, v8) (N : Int) (Bm N d) m a = some (J9 (L7 v0 v1 v2 v3 v4 false) N v6 m c a d)
 | 0, _, _, _, _, h, _, _ => by omega
 | c + 1, d, m, a, h0, hc, hm, ha => by
  rw [Gs hN d h0, Fy]
  try dsimp only [Aw]
  have htl : (d.take N).length = min N d.length := List.length_take
  refine (bs (U0 k (d.take N) (by omega))).trans ((ct (decide_eq_true (by rw [List.length_singleton]; omega))).trans ?_)
  by_cases hlast : d.length ≤ N
  ·have e0 : d.drop N = [] := List.drop_eq_nil_of_le hlast
   have e1 : d.take N = d := List.take_of_length_le hlast
   rw [e0, Ip hN, e1, Fy]
   have hl : (m ++ [(v0, v1, v2, v3, v4, a, true, false, d)]).length = m.length + 1 := by rw [List.length_append, List.length_singleton]
   have hi : IntKind.i64.wrap (((m ++ [(v0, v1, v2, v3, v4, a, true, false, d)]).length : Int) - 1) = ((m.length : Nat) : Int) := by rw [hl, i64_in _ (by omega)]; omega
   have hg : Af (t := An) (m ++ [(v0, v1, v2, v3, v4, a, true, false, d)]) ((m.length : Nat) : Int) = (v0, v1, v2, v3, v4, a, true, false, d) := by rw [Av _ m.length (by rw [hl]; omega)]; simp
   have hset : (m ++ [(v0, v1, v2, v3, v4, a, true, false, d)]).set m.length (v0, v1, v2, v3, v4, a, v6, false, d) = m ++ [L7 v0 v1 v2 v3 v4 false a v6 d] := by simp [L7]
   have hg2 : Af (t := An) (m ++ [L7 v0 v1 v2 v3 v4 false a v6 d]) ((m.length : Nat) : Int) = L7 v0 v1 v2 v3 v4 false a v6 d := by rw [Av _ m.length (by rw [List.length_append, List.length_singleton]; omega)]; simp
   try dsimp only
   rw [hi, hg, Int.toNat_natCast]
   refine (ct (decide_eq_true (by omega))).trans ((ct (decide_eq_true (by rw [hl]; omega))).trans ((bs (congrArg some hset)).trans ((cf rfl).trans ?_)))
   rw [hg2]
   unfold J9
   rw [Ef, if_pos hlast, C8, if_pos hlast]
   by_cases c2 : a > 255
   ·rw [decide_eq_true c2]
    exact (ct (decide_eq_true c2)).trans rfl
   ·rw [decide_eq_false c2]
    exact (cf (decide_eq_false c2)).trans ((bs (Xb2 k _)).trans rfl)
  ·have hdl : (d.drop N).length = d.length - N := List.length_drop
   have hne : d.drop N ≠ [] := by
    intro e
    rw [e] at hdl
    simp at hdl
    omega
   have ea : IntKind.i64.wrap (a + ((d.take N).length : Int)) = a + (N : Int) := by rw [htl, i64_in _ (by omega)]; omega
   rw [ea, Xji k v0 v1 v2 v3 v4 v5 v6 v8 N hN c (d.drop N) _ _ hne (by omega) (by rw [List.length_append, List.length_singleton]; omega) (by omega)]
   unfold J9
   rw [Ef, if_neg hlast, C8, if_neg hlast, List.append_assoc, List.singleton_append]
   rfl
theorem Uo (k : Nat) (p : den An) (hl : p.2.2.2.2.2.2.2.2.length ≤ 1048576) : F58 k p = some p := by
 unfold F58; (try dsimp only [Aw])
 exact (bs (U0 k _ (by omega))).trans rfl
theorem Xoy (k : Nat) (p : den An) (hl : p.2.2.2.2.2.2.2.2.length ≤ 1048576) : F39 k p = some p := by
 unfold F39; (try dsimp only [Dv, Aw])
 refine (ct (decide_eq_true (by rw [List.length_nil]; omega))).trans ?_
 rw [List.nil_append]
theorem Xnj (k : Nat) {v0 v1 v2 v3 v4 v5 : Int} {v6 v7 : Bool} {v8 : Bo} {N : Nat} (h : L2 (v0, v1, v2, v3, v4, v5, v6, v7, v8) = true) (hN : 1 ≤ N ∧ N ≤ 48) (h7 : v7 = true → v8.length ≤ N) :
  F61 k (v0, v1, v2, v3, v4, v5, v6, v7, v8) (N : Int) = some (J9 (L7 v0 v1 v2 v3 v4 v7) N v6 [] 50 v5 v8) := by
 obtain ⟨_, _, _, _, _, h5, h8, _⟩ := Ch h
 unfold F61; (try dsimp only)
 by_cases c : v8.length ≤ N
 ·refine (ct (decide_eq_true (by omega))).trans ((bs (Uo k _ (show v8.length ≤ 1048576 by omega))).trans ?_)
  unfold J9
  rw [Ef, if_pos c, C8, if_pos c, decide_eq_false (by omega : ¬ v5 > 255)]
  rfl
 ·have e7 : v7 = false := by
   cases v7 with
   | false => rfl
   | true => exact absurd (h7 rfl) c
  subst e7
  refine (cf (decide_eq_false (by omega))).trans ((ct ?_).trans ?_)
  ·rw [decide_eq_true (by omega : (1 : Int) ≤ (N : Int)), decide_eq_true (by omega : (N : Int) ≤ 9223372036854775807), decide_eq_true (show v8.length ≤ 140737488355328 by omega)]; rfl
  ·rw [Int.toNat_natCast]
   exact Xji k v0 v1 v2 v3 v4 v5 v6 v8 N hN.1 50 v8 [] v5 (fun e => c (by rw [e]; simp)) (by omega) (by simp) (by omega)
end Go.Proofs.Ytdmepjjepogddaa.Gn
end

section
namespace Go.Proofs.Ytdmepjjepogddaa.Gn
open Go.Rf Go.IntWalk
set_option linter.unusedVariables false
set_option linter.unusedSimpArgs false
def wl (n : Nat) : Int := if n = 0 then 1 else (n : Int)
def wt (p : den An) : Int := wl p.2.2.2.2.2.2.2.2.length * ((p.2.2.2.1 : Int) + 1)
theorem Xcz (n : Nat) : 1 ≤ wl n := by unfold wl; split <;> omega
theorem So (v0 v1 v2 v3 v4 : Int) (v7 : Bool) {N : Nat} (hN : 1 ≤ N) (f : Bool) : ∀ (c : Nat) (a : Int) (d : Bo), d.length < c → A0 wt (C8 (L7 v0 v1 v2 v3 v4 v7) N f c a d) = wl d.length * (v3 + 1)
 | 0, _, _, h => by omega
 | c + 1, a, d, h => by
  rw [C8]
  by_cases hl : d.length ≤ N
  ·rw [if_pos hl]
   simp only [A0]
   show wl d.length * (v3 + 1) + 0 = _
   omega
  ·rw [if_neg hl]
   have hd : (d.drop N).length = d.length - N := List.length_drop
   have ht : (d.take N).length = N := by rw [List.length_take]; omega
   simp only [A0]
   rw [So v0 v1 v2 v3 v4 v7 hN f c (a + (N : Int)) (d.drop N) (by omega)]
   show wl (d.take N).length * (v3 + 1) + _ = _
   rw [ht, hd, ← Int.add_mul]
   congr 1
   unfold wl
   split <;> split <;> split <;> omega
theorem S3 (g : Int → Bool → Bo → den An) {N : Nat} (hN : 1 ≤ N) (f : Bool) {p : den An} : ∀ (c : Nat) (a : Int) (d : Bo), p ∈ C8 g N f c a d → ∃ a' m d', p = g a' m d' ∧ a ≤ a' ∧ a' ≤ Ef N c a d ∧ d'.length ≤ d.length ∧ (d ≠ [] → d' ≠ []) ∧ (m = f ∨ d' ≠ []) ∧ (∀ x ∈ d', x ∈ d)
 | 0, _, _, h => by simp [C8] at h
 | c + 1, a, d, h => by
  rw [C8] at h
  rw [Ef]
  by_cases hl : d.length ≤ N
  ·rw [if_pos hl] at h ⊢
   obtain rfl := List.mem_singleton.1 h
   exact ⟨a, f, d, rfl, Int.le_refl _, Int.le_refl _, Nat.le_refl _, id, .inl rfl, fun x hx => hx⟩
  ·rw [if_neg hl] at h ⊢
   have hd : (d.drop N).length = d.length - N := List.length_drop
   have ht : (d.take N).length = N := by rw [List.length_take]; omega
   have hge := Nm N c (a + (N : Int)) (d.drop N)
   rcases List.mem_cons.1 h with e | h
   ·have hne : d.take N ≠ [] := fun e => by rw [e] at ht; simp at ht; omega
    exact ⟨a, true, d.take N, e, Int.le_refl _, by omega, by omega, fun _ => hne, .inr hne, fun x hx => List.mem_of_mem_take hx⟩
   ·have hne : d.drop N ≠ [] := fun e => by rw [e] at hd; simp at hd; omega
    obtain ⟨a', m, d', h1, h2, h3, h4, h5, h6, h7⟩ := S3 g hN f c (a + (N : Int)) (d.drop N) h
    exact ⟨a', m, d', h1, by omega, h3, by omega, fun _ => h5 hne, h6, fun x hx => List.mem_of_mem_drop (h7 x hx)⟩
def Kl (p : den An) : den An := (p.1, p.2.1, p.2.2.1, IntKind.i64.wrap ((p.2.2.2.1 : Int) - 1), p.2.2.2.2)
theorem R9 {v3 : Int} (h3 : 0 ≤ v3 ∧ v3 ≤ 255) (v0 v1 v2 v4 : Int) (v7 : Bool) (N : Nat) (f : Bool) : ∀ (c : Nat) (a : Int) (d : Bo), (C8 (L7 v0 v1 v2 v3 v4 v7) N f c a d).map Kl = C8 (L7 v0 v1 v2 (v3 - 1) v4 v7) N f c a d
 | 0, _, _ => rfl
 | c + 1, a, d => by
  have e : ∀ (a : Int) (m : Bool) (d : Bo), Kl (L7 v0 v1 v2 v3 v4 v7 a m d) = L7 v0 v1 v2 (v3 - 1) v4 v7 a m d := fun a m d => by
   show (v0, v1, v2, IntKind.i64.wrap (v3 - 1), v4, a, m, v7, d) = _
   rw [i64_in (v3 - 1) (by omega)]
   rfl
  rw [C8, C8]
  split
  ·rw [List.map_cons, e]; rfl
  ·rw [List.map_cons, e, R9 h3 v0 v1 v2 v4 v7 N f c]
theorem Xgn (k : Nat) (s : den sta) (w : den An) (z : den Br) : ∀ (n : Nat) (d r : Fs), d.length + r.length ≤ 1000 → r.length < n → E8 k s w n ((d.length + r.length : Nat) : Int) (d.length : Int) z (d ++ r) = some ((2 : Int), (z.2.2.1 : Int), d ++ r.map Kl)
 | 0, _, _, _, h => by omega
 | n + 1, d, [], hl, h => by
  rw [E8]
  unfold Ga; (try dsimp only [A2])
  simp
 | n + 1, d, p :: r, hl, h => by
  rw [E8]
  unfold Ga; (try dsimp only [A2])
  rw [List.length_cons] at hl h
  have hj : d.length < (d ++ p :: r).length := by simp
  have hg : Af (t := An) (d ++ p :: r) (d.length : Int) = p := by rw [Av _ d.length hj]; simp
  have hset : (d ++ p :: r).set d.length (Kl p) = (d ++ [Kl p]) ++ r := by simp
  have ih := Xgn k s w z n (d ++ [Kl p]) r (by simp; omega) (by omega)
  have e1 : (((d ++ [Kl p]).length + r.length : Nat) : Int) = ((d.length + (p :: r).length : Nat) : Int) := by simp; omega
  have e2 : ((d ++ [Kl p]).length : Int) = ((d.length + 1 : Nat) : Int) := by simp
  rw [e1, e2] at ih
  rw [hg, I3 d.length (by omega), Int.toNat_natCast]
  refine (ct (decide_eq_true (by simp only [List.length_cons]; omega))).trans ?_
  have d0 : decide ((0 : Int) ≤ (d.length : Int)) = true := decide_eq_true (by omega)
  have d1 : decide ((d.length : Int) < ((d ++ p :: r).length : Int)) = true := decide_eq_true (by omega)
  refine (ct d0).trans ((ct d1).trans ((ct d0).trans ((ct d1).trans ?_)))
  refine (congrArg (fun l => E8 k s w n ((d.length + (p :: r).length : Nat) : Int) ((d.length + 1 : Nat) : Int) z l) hset).trans (ih.trans ?_)
  rw [List.map_cons, List.append_assoc, List.singleton_append]
def Xfz (p : den An) (d : den Ma) : Prop :=
 (@Eq Int d.1 0 ∧ d.2.2 = []) ∨ (@Eq Int d.1 1 ∧ d.2.2 = [p]) ∨ (@Eq Int d.1 3 ∧ ∃ n : den An, d.2.2 = [n] ∧ n.2.2.2.2.2.2.2.2.length ≤ 1048576) ∨
  (@Eq Int d.1 2 ∧ (∀ r ∈ d.2.2, L2 r = true ∧ BOk r.2.2.2.2.2.2.2.2) ∧ A0 wt d.2.2 + 1 ≤ wt p ∧ d.2.2.length ≤ 50)
theorem Gl (p : den An) (v0 v1 v2 v3 v4 v5 : Int) (v6 v7 : Bool) (v8 : Bo) (w a b : Int) : Xfz p (Ms (Qc v0 v1 v2 v3 v4 v5 v6 v7 v8 w a b)) := by
 unfold Qc
 cases (!H7 v2 v8 && @BEq.beq Int _ v5 0) with
 | false => exact .inl ⟨rfl, rfl⟩
 | true =>
  refine .inr (.inr (.inl ⟨rfl, _, rfl, ?_⟩))
  show (X1 a b ((pkB v0 v1 v2 v3 v4 v5 v6 v7 v8).take 20)).length ≤ _
  cases ho : Q6 a b ((pkB v0 v1 v2 v3 v4 v5 v6 v7 v8).take 20).length with
  | false => unfold X1; rw [ho]; simp
  | true => have := Qu ho; omega
theorem Ot (g : Int → Bool → Bo → den An) (N : Nat) (f : Bool) : ∀ (c : Nat) (a : Int) (d : Bo), (C8 g N f c a d).length ≤ c
 | 0, _, _ => Nat.le_refl _
 | c + 1, a, d => by
  rw [C8]
  split
  ·simp
  ·have := Ot g N f c (a + (N : Int)) (d.drop N)
   rw [List.length_cons]
   omega
theorem Xdq {v0 v1 v2 v3 v4 v5 : Int} {v6 v7 : Bool} {v8 : Bo} {N : Nat} (h : L2 (v0, v1, v2, v3, v4, v5, v6, v7, v8) = true) (hb : BOk v8) (hN : 1 ≤ N ∧ N ≤ 48) (h7 : v7 = true → v8.length ≤ N) (h3 : ¬ v3 < 2) (gw : Int) (ha : ¬ Ef N 50 v5 v8 > 255) :
  Xfz (v0, v1, v2, v3, v4, v5, v6, v7, v8) (2, gw, C8 (L7 v0 v1 v2 (v3 - 1) v4 v7) N v6 50 v5 v8) := by
 obtain ⟨q0, q1, q2, q3, q4, q5, q6, q7, q8⟩ := Ch h
 refine .inr (.inr (.inr ⟨rfl, fun r hr => ?_, ?_, Ot _ _ _ _ _ _⟩))
 ·cases v7 with
  | true =>
   have hr : r ∈ C8 (L7 v0 v1 v2 (v3 - 1) v4 true) N v6 50 v5 v8 := hr
   rw [C8, if_pos (h7 rfl)] at hr
   obtain rfl := List.mem_singleton.1 hr
   exact ⟨T7 q0 q1 q2 (by omega) q4 q5 q6 q7 q8, hb⟩
  | false =>
   obtain ⟨a', m, d', rfl, e1, e2, e3, e4, e5, e6⟩ := S3 (L7 v0 v1 v2 (v3 - 1) v4 false) hN.1 v6 50 v5 v8 hr
   refine ⟨T7 q0 q1 q2 (by omega) q4 (by omega) (by omega) (fun hm => ?_) (fun e => by cases e), fun x hx => hb x (e6 x hx)⟩
   refine List.length_pos_iff.2 ?_
   rcases e5 with e5 | e5
   ·exact e4 (List.length_pos_iff.1 (q7 (e5.symm.trans hm)))
   ·exact e5
 ·show A0 wt (C8 (L7 v0 v1 v2 (v3 - 1) v4 v7) N v6 50 v5 v8) + 1 ≤ wl v8.length * (v3 + 1)
  rw [So v0 v1 v2 (v3 - 1) v4 v7 hN.1 v6 50 v5 v8 (by omega)]
  have := Xcz v8.length
  rw [show v3 - 1 + 1 = v3 by omega, Int.mul_add, Int.mul_one]
  omega
theorem fwd (q : Nat) {s : den sta} (hs : StaOk (q + 4) s) {v0 v1 v2 v3 v4 v5 : Int} {v6 v7 : Bool} {v8 : Bo} (h : L2 (v0, v1, v2, v3, v4, v5, v6, v7, v8) = true) (hb : BOk v8) (hk : 1048576 < q + 4) :
  ∃ d : den Ma, F22 (q + 4) s (v0, v1, v2, v3, v4, v5, v6, v7, v8) = some d ∧ F47 (q + 4) s (v0, v1, v2, v3, v4, v5, v6, v7, v8) = some d ∧ Xfz (v0, v1, v2, v3, v4, v5, v6, v7, v8) d := by
 obtain ⟨q0, q1, q2, q3, q4, q5, q6, q7, q8⟩ := Ch h
 have hp : F20 (q + 4) (v0, v1, v2, v3, v4, v5, v6, v7, v8) = some true := by rw [N0, h]
 have h58 := Uo (q + 4) (v0, v1, v2, v3, v4, v5, v6, v7, v8) (show v8.length ≤ 1048576 by omega)
 have h39 := Xoy (q + 4) (v0, v1, v2, v3, v4, v5, v6, v7, v8) (show v8.length ≤ 1048576 by omega)
 have sg := fun (a b : Int) (ha : 3 ≤ a ∧ a ≤ 6) (hb2 : 0 ≤ b ∧ b ≤ 65535) => Xn0 (Xk7 q h hb hk hs.at1 ha hb2)
 have ig := fun (a b : Int) (ha : 3 ≤ a ∧ a ≤ 6) (hb2 : 0 ≤ b ∧ b ≤ 65535) => Xo5 (Xm4 q h hb hk hs.at1 ha hb2)
 unfold F22 Xh F47 X4; (try dsimp only)
 rw [hs.st, hp]
 by_cases c1 : v1 = s.1
 ·have b1 : (v1 == s.1) = true := beq_iff_eq.2 c1
  exact ⟨(1, 0, [(v0, v1, v2, v3, v4, v5, v6, v7, v8)]), (bs rfl).trans ((cf rfl).trans ((bs rfl).trans ((cf rfl).trans ((ct b1).trans ((bs h39).trans rfl))))), (ct b1).trans ((bs h58).trans rfl), .inr (.inl ⟨rfl, rfl⟩)⟩
 have b1 : (v1 == s.1) = false := beq_eq_false_iff_ne.2 c1
 by_cases c2 : v3 < 2
 ·have b2 : decide (v3 < 2) = true := decide_eq_true c2
  exact ⟨_, (bs rfl).trans ((cf rfl).trans ((bs rfl).trans ((cf rfl).trans ((cf b1).trans ((ct b2).trans ((bs (sg 4 0 (by omega) (by omega))).trans rfl)))))), (cf b1).trans ((ct b2).trans ((bs (ig 4 0 (by omega) (by omega))).trans rfl)), Gl _ _ _ _ _ _ _ _ _ _ _ _ _⟩
 have b2 : decide (v3 < 2) = false := decide_eq_false c2
 have fs := Xpd (q + 4) s.2 v1 hs.len hs.rs hs.ok (Cu q1) hk
 have fi := Xn3 (q + 4) s.2 v1 hs.len hs.ok
 have fm := Tk v1 17 (l := s.2.reverse)
 generalize Rt.Dw v1 17 s.2.reverse = r at fs fi fm
 obtain ⟨r, fd⟩ := r
 cases fd with
 | false =>
  exact ⟨_, (bs rfl).trans ((cf rfl).trans ((bs rfl).trans ((cf rfl).trans ((cf b1).trans ((cf b2).trans ((bs fs).trans ((ct rfl).trans ((bs (sg 3 0 (by omega) (by omega))).trans rfl)))))))), (cf b1).trans ((cf b2).trans ((bs fi).trans ((ct rfl).trans ((bs (ig 3 0 (by omega) (by omega))).trans rfl)))), Gl _ _ _ _ _ _ _ _ _ _ _ _ _⟩
 | true =>
  have hm := List.mem_reverse.1 (fm rfl)
  obtain ⟨r0, r1, gw, mtu⟩ := r
  have hmtu : @LE.le Int _ 1 mtu ∧ @LE.le Int _ mtu 48 := B2 (Mm (hs.ok _ hm)).2.2.2
  obtain ⟨N, hN⟩ : ∃ N : Nat, mtu = (N : Int) := ⟨Int.toNat mtu, (Int.toNat_of_nonneg (by omega)).symm⟩
  subst hN
  have hN : 1 ≤ N ∧ N ≤ 48 := by omega
  have w3 : IntKind.i64.wrap (v3 - 1) = v3 - 1 := i64_in _ (by omega)
  have hok' : L2 (v0, v1, v2, v3 - 1, v4, v5, v6, v7, v8) = true := T7 q0 q1 q2 (by omega) q4 q5 q6 q7 q8
  have sj : (v7 = true → v8.length ≤ N) → ∃ d : den Ma, N3 (q + 4) s (v0, v1, v2, v3, v4, v5, v6, v7, v8) some ((r0, r1, gw, (N : Int)), true) = some d ∧ (F61 (q + 4) (v0, v1, v2, v3, v4, v5, v6, v7, v8) (N : Int)).bind (fun b6 => cond (!b6.2) (some ((0 : Int), (0 : Int), ([] : Fs))) (E8 (q + 4) s (v0, v1, v2, v3, v4, v5, v6, v7, v8) (q + 4) (b6.1.length : Int) 0 (r0, r1, gw, (N : Int)) b6.1)) = some d ∧ Xfz (v0, v1, v2, v3, v4, v5, v6, v7, v8) d := fun h7 => by
   have e1 := Xlh (q + 4) hok' hN h7 hk
   have e2 := Xnj (q + 4) h hN h7
   unfold N3; (try dsimp only)
   unfold J9 at e1 e2
   by_cases ha : Ef N 50 v5 v8 > 255
   ·rw [decide_eq_true ha] at e1 e2
    refine ⟨(0, 0, []), (bs h39).trans ?_, (bs e2).trans rfl, .inl ⟨rfl, rfl⟩⟩
    show (F42 (q + 4) (v0, v1, v2, IntKind.i64.wrap (v3 - 1), v4, v5, v6, v7, v8) (N : Int)).bind _ = _
    rw [w3]
    exact (bs e1).trans rfl
   ·rw [decide_eq_false ha] at e1 e2
    refine ⟨(2, gw, C8 (L7 v0 v1 v2 (v3 - 1) v4 v7) N v6 50 v5 v8), (bs h39).trans ?_, (bs e2).trans ?_, Xdq h hb hN h7 c2 gw ha⟩
    ·show (F42 (q + 4) (v0, v1, v2, IntKind.i64.wrap (v3 - 1), v4, v5, v6, v7, v8) (N : Int)).bind _ = _
     rw [w3]
     exact (bs e1).trans rfl
    ·have hl := Ot (L7 v0 v1 v2 v3 v4 v7) N v6 50 v5 v8
     have := Xgn (q + 4) s (v0, v1, v2, v3, v4, v5, v6, v7, v8) (r0, r1, gw, (N : Int)) (q + 4) [] (C8 (L7 v0 v1 v2 v3 v4 v7) N v6 50 v5 v8) (by simp; omega) (by omega)
     simp only [List.nil_append, List.length_nil, Nat.zero_add] at this
     rw [R9 q3] at this
     exact (cf rfl).trans this
  by_cases c3 : (v8.length : Int) > (N : Int)
  ·have b3 : decide ((v8.length : Int) > (N : Int)) = true := decide_eq_true c3
   cases v7 with
   | true =>
    exact ⟨_, (bs rfl).trans ((cf rfl).trans ((bs rfl).trans ((cf rfl).trans ((cf b1).trans ((cf b2).trans ((bs fs).trans ((cf rfl).trans ((ct b3).trans ((ct rfl).trans ((bs (sg 6 (N : Int) (by omega) (by omega))).trans rfl)))))))))), (cf b1).trans ((cf b2).trans ((bs fi).trans ((cf rfl).trans ((ct b3).trans ((ct rfl).trans ((bs (ig 6 (N : Int) (by omega) (by omega))).trans rfl)))))), Gl _ _ _ _ _ _ _ _ _ _ _ _ _⟩
   | false =>
    obtain ⟨d, e1, e2, e3⟩ := sj (fun e => by cases e)
    exact ⟨d, (bs rfl).trans ((cf rfl).trans ((bs rfl).trans ((cf rfl).trans ((cf b1).trans ((cf b2).trans ((bs fs).trans ((cf rfl).trans ((ct b3).trans ((cf rfl).trans e1))))))))), (cf b1).trans ((cf b2).trans ((bs fi).trans ((cf rfl).trans ((ct b3).trans ((cf rfl).trans e2))))), e3⟩
  ·have b3 : decide ((v8.length : Int) > (N : Int)) = false := decide_eq_false c3
   obtain ⟨d, e1, e2, e3⟩ := sj (fun e => by omega)
   exact ⟨d, (bs rfl).trans ((cf rfl).trans ((bs rfl).trans ((cf rfl).trans ((cf b1).trans ((cf b2).trans ((bs fs).trans ((cf rfl).trans ((cf b3).trans e1)))))))), (cf b1).trans ((cf b2).trans ((bs fi).trans ((cf rfl).trans ((cf b3).trans e2)))), e3⟩
end Go.Proofs.Ytdmepjjepogddaa.Gn
end

section
namespace Go.Proofs.Ytdmepjjepogddaa.Gn
open Go.Rf Go.IntWalk
set_option linter.unusedVariables false
set_option linter.unusedSimpArgs false
def nM (d1 : Int) (l : Fs) (m : den Co) : den Co := cond (d1 == 1) (m.1 ++ l, m.2) (cond (d1 == 3) (m.1, m.2.1 ++ l, m.2.2) m)
def nA (d1 t : Int) (n : Nat) (A : A7) : A7 := cond (d1 == 1) A (cond (d1 == 3) A (cond (decide (t ≥ 0)) (A ++ List.replicate n t) A))
def nR (d1 t : Int) (l : Fs) (R : Fs) : Fs := cond (d1 == 1) R (cond (d1 == 3) R (cond (decide (t ≥ 0)) (R ++ l) R))
theorem Xfn (d1 : Int) (a : den An) (l : Fs) (m : den Co) : nM d1 l (nM d1 [a] m) = nM d1 (a :: l) m := by
 unfold nM
 cases d1 == 1 <;> cases d1 == 3 <;> simp
theorem Xfa (d1 t : Int) (n : Nat) (A : A7) : nA d1 t n (nA d1 t 1 A) = nA d1 t (n + 1) A := by
 unfold nA
 cases d1 == 1 <;> cases d1 == 3 <;> cases decide (t ≥ 0) <;> simp [List.replicate_succ]
theorem Xfd (d1 t : Int) (a : den An) (l : Fs) (R : Fs) : nR d1 t l (nR d1 t [a] R) = nR d1 t (a :: l) R := by
 unfold nR
 cases d1 == 1 <;> cases d1 == 3 <;> cases decide (t ≥ 0) <;> simp
theorem Xmd (d1 : Int) (l : Fs) (m : den Co) : (nM d1 l m).1.length ≤ m.1.length + l.length ∧ (nM d1 l m).2.1.length ≤ m.2.1.length + l.length := by
 unfold nM
 cases d1 == 1 <;> cases d1 == 3 <;> simp
theorem Xn6 (d1 t : Int) (n : Nat) (A : A7) : (nA d1 t n A).length ≤ A.length + n := by
 unfold nA
 cases d1 == 1 <;> cases d1 == 3 <;> cases decide (t ≥ 0) <;> simp
theorem Xkf (d1 t : Int) (l : Fs) (R : Fs) : (nR d1 t l R).length ≤ R.length + l.length := by
 unfold nR
 cases d1 == 1 <;> cases d1 == 3 <;> cases decide (t ≥ 0) <;> simp
theorem Tw (k : Nat) (v : L9) (w : Int) (p : den An) (x t : Int) (d : den Ma) (hl : d.2.2.length ≤ 100) : ∀ (n j : Nat) (m : den Co) (A : A7) (R : Fs), j ≤ d.2.2.length → d.2.2.length - j < n → m.1.length + (d.2.2.length - j) ≤ 100000 → m.2.1.length + (d.2.2.length - j) ≤ 100000 → A.length + (d.2.2.length - j) ≤ 100000 → R.length + (d.2.2.length - j) ≤ 100000 →
  P2 k v w p n x t (j : Int) m d A R = some (x, t, (d.2.2.length : Int), d, nM d.1 (d.2.2.drop j) m, nA d.1 t (d.2.2.drop j).length A, nR d.1 t (d.2.2.drop j) R)
 | 0, j, m, A, R, _, h, _, _, _, _ => by omega
 | n + 1, j, m, A, R, hj, h, h1, h2, h3, h4 => by
  rw [P2]
  unfold Mj; (try dsimp only [A2, Dv])
  rcases Nat.lt_or_ge j d.2.2.length with hlt | hge
  ·have d1 : decide ((j : Int) < ((d.2.2.length : Nat) : Int)) = true := decide_eq_true (by omega)
   have d0 : decide ((0 : Int) ≤ ((j : Nat) : Int)) = true := decide_eq_true (by omega)
   rw [Av (t := An) d.2.2 j hlt, I3 j (by omega), List.drop_eq_getElem_cons hlt]
   have l1 := Xmd d.1 [d.2.2[j]] m
   have l2 := Xn6 d.1 t 1 A
   have l3 := Xkf d.1 t [d.2.2[j]] R
   rw [List.length_singleton] at l1 l3
   have ih := Tw k v w p x t d hl n (j + 1) (nM d.1 [d.2.2[j]] m) (nA d.1 t 1 A) (nR d.1 t [d.2.2[j]] R) hlt (by omega) (by omega) (by omega) (by omega) (by omega)
   rw [Xfn, Xfa, Xfd] at ih
   refine Eq.trans ?_ ih
   refine (ct d1).trans ?_
   unfold nM nA nR
   have c1 : ((d.1 : Int) == 1) = true ∨ ((d.1 : Int) == 1) = false := by cases ((d.1 : Int) == 1) <;> simp
   rcases c1 with c1 | c1
   ·refine (ct c1).trans ((ct d0).trans ((ct d1).trans ((ct (decide_eq_true (by (try simp only [List.length_singleton]); omega))).trans ?_)))
    rw [c1]
    rfl
   ·have c3 : ((d.1 : Int) == 3) = true ∨ ((d.1 : Int) == 3) = false := by cases ((d.1 : Int) == 3) <;> simp
    rw [c1]
    rcases c3 with c3 | c3
    ·refine (cf rfl).trans ((ct c3).trans ((ct d0).trans ((ct d1).trans ((ct (decide_eq_true (by (try simp only [List.length_singleton]); omega))).trans ?_))))
     rw [c3]
     rfl
    ·rw [c3]
     by_cases ht : t ≥ 0
     ·refine (cf rfl).trans ((cf rfl).trans ((ct (decide_eq_true ht)).trans ((ct (decide_eq_true (by (try simp only [List.length_singleton]); omega))).trans ((ct d0).trans ((ct d1).trans ((ct (decide_eq_true (by (try simp only [List.length_singleton]); omega))).trans ?_))))))
      rw [decide_eq_true ht]
      rfl
     ·refine (cf rfl).trans ((cf rfl).trans ((cf (decide_eq_false ht)).trans ?_))
      rw [decide_eq_false ht]
      rfl
  ·have : j = d.2.2.length := by omega
   subst this
   rw [List.drop_length]
   refine (cf (decide_eq_false (by omega))).trans ?_
   unfold nM nA nR
   cases (d.1 : Int) == 1 <;> cases (d.1 : Int) == 3 <;> cases decide (t ≥ 0) <;> simp
theorem Qg (k : Nat) (v : L9) (w : Int) (p : den An) (t : Int) (m : den Co) (ps : Fs) (hl : ps.length ≤ 100) : ∀ (n j : Nat) (Q : A8), j ≤ ps.length → ps.length - j < n → Q.length + (ps.length - j) ≤ 100000 →
  La k v w p n t (ps.length : Int) (j : Int) m ps Q = some (t, (ps.length : Int), (ps.length : Int), m, ps, Q ++ (ps.drop j).map fun r => (t, r))
 | 0, j, Q, _, h, _ => by omega
 | n + 1, j, Q, hj, h, h1 => by
  rw [La]
  unfold Jt; (try dsimp only [A2, Dv])
  rcases Nat.lt_or_ge j ps.length with hlt | hge
  ·have d1 : decide ((j : Int) < ((ps.length : Nat) : Int)) = true := decide_eq_true (by omega)
   have d0 : decide ((0 : Int) ≤ ((j : Nat) : Int)) = true := decide_eq_true (by omega)
   rw [Av (t := An) ps j hlt, I3 j (by omega), List.drop_eq_getElem_cons hlt]
   refine (ct d1).trans ((ct d0).trans ((ct d1).trans ((ct (decide_eq_true (by rw [List.length_singleton]; omega))).trans ?_)))
   rw [Qg k v w p t m ps hl n (j + 1) _ hlt (by omega) (by rw [List.length_append, List.length_singleton]; omega), List.map_cons, List.append_assoc, List.singleton_append]
  ·have : j = ps.length := by omega
   subst this
   rw [List.drop_length]
   refine (cf (decide_eq_false (by omega))).trans ?_
   simp
theorem Xjv (k : Nat) (v : Fs) (hv : v.length ≤ 100000) (hs : ∀ r ∈ v, r.2.2.2.2.2.2.2.2.length ≤ 1048576) : ∀ (n j : Nat) (m : Fs), j ≤ v.length → v.length - j < n → m.length + (v.length - j) ≤ 100000 → Le k v n (j : Int) m = some (m ++ v.drop j)
 | 0, j, m, _, h, _ => by omega
 | n + 1, j, m, hj, h, hm => by
  rw [Le]
  unfold Jq; (try dsimp only [A2, Dv])
  rcases Nat.lt_or_ge j v.length with hlt | hge
  ·have d1 : decide ((j : Int) < ((v.length : Nat) : Int)) = true := decide_eq_true (by omega)
   have d0 : decide ((0 : Int) ≤ ((j : Nat) : Int)) = true := decide_eq_true (by omega)
   rw [Av v j hlt, I3 j (by omega), List.drop_eq_getElem_cons hlt]
   refine (ct d1).trans ((ct d0).trans ((ct d1).trans ((bs (Uo k v[j] (hs _ (List.getElem_mem hlt)))).trans ((ct (decide_eq_true (by rw [List.length_singleton]; omega))).trans ?_))))
   rw [Xjv k v hv hs n (j + 1) _ hlt (by omega) (by rw [List.length_append, List.length_singleton]; omega), List.append_assoc, List.singleton_append]
  ·have : j = v.length := by omega
   subst this
   rw [List.drop_length, List.append_nil]
   exact (cf (decide_eq_false (by omega))).trans ((bs (Xb2 k m)).trans rfl)
theorem Q7 (k : Nat) (v : Fs) (hv : v.length ≤ 100000) (hs : ∀ r ∈ v, r.2.2.2.2.2.2.2.2.length ≤ 1048576) (hk : 1048576 < k) : F48 k v = some v := by
 have := Xjv k v hv hs k 0 [] (Nat.zero_le _) (by omega) (by simpa using hv)
 unfold F48 V6; (try dsimp only)
 simpa using this
theorem Xnk {a b : Int} (ha : 1 ≤ a ∧ a ≤ 48) (hb : 0 ≤ b ∧ b ≤ 255) : 1 ≤ a * (b + 1) ∧ a * (b + 1) ≤ 12288 := by
 have h1 := Int.mul_pos (show 0 < a by omega) (show 0 < b + 1 by omega)
 have h2 := Int.mul_le_mul ha.2 (show b + 1 ≤ 256 by omega) (show 0 ≤ b + 1 by omega) (show (0 : Int) ≤ 48 by omega)
 omega
theorem Xg5 {r : den An} (h : L2 r = true) : 1 ≤ wt r ∧ wt r ≤ 12288 := by
 obtain ⟨v0, v1, v2, v3, v4, v5, v6, v7, v8⟩ := r
 obtain ⟨_, _, _, h3, _, _, h8, _⟩ := Ch h
 exact Xnk ⟨Xcz _, by show wl v8.length ≤ 48; unfold wl; split <;> omega⟩ h3
theorem Xat {r : den An} (h : L2 r = true) : 1 ≤ wt r := (Xg5 h).1
theorem Xpy {r : den An} (h : L2 r = true) : wt r ≤ 12288 := (Xg5 h).2
theorem Sg {α : Type} (s : α → Int) : ∀ a b : List α, A0 s (a ++ b) = A0 s a + A0 s b
 | [], b => by simp [A0]
 | x :: a, b => by simp only [List.cons_append, A0, Sg s a b]; omega
theorem Mn : ∀ l : Fs, (∀ r ∈ l, L2 r = true) → (l.length : Int) ≤ A0 wt l
 | [], _ => by simp [A0]
 | r :: l, h => by
  have h1 := Xat (h r (by simp))
  have h2 := Mn l (fun x hx => h x (by simp [hx]))
  simp only [A0, List.length_cons]
  omega
def TOk (t : den Co) : Prop := t.1.length ≤ 100000 ∧ t.2.1.length ≤ 100000 ∧ (∀ r ∈ t.1, r.2.2.2.2.2.2.2.2.length ≤ 1048576) ∧ (∀ r ∈ t.2.1, r.2.2.2.2.2.2.2.2.length ≤ 1048576)
def stp (t : den Co) : Int := t.2.2
theorem trav (q : Nat) (v : L9) (w : Int) (p : den An) (hv : ∀ s ∈ v, StaOk (q + 4) s) (hvl : v.length ≤ 5) (hk : 1048576 < q + 4) : ∀ (c n n' x : Nat) (m : den Co) (A : A7) (R : Fs), A.length = R.length → x ≤ R.length → (∀ a ∈ A.drop x, @LE.le Int _ 0 a ∧ @LT.lt Int _ a (v.length : Int)) → (∀ r ∈ R.drop x, L2 r = true ∧ BOk r.2.2.2.2.2.2.2.2) →
  A0 wt (R.drop x) ≤ (c : Int) → c < n → c < n' → x + c ≤ 20000 → m.1.length + c ≤ 20000 → m.2.1.length + c ≤ 20000 → (∀ r ∈ m.1, r.2.2.2.2.2.2.2.2.length ≤ 1048576) → (∀ r ∈ m.2.1, r.2.2.2.2.2.2.2.2.length ≤ 1048576) → (0 ≤ stp m ∧ stp m + (c : Int) ≤ 20000) →
  ∃ t : den Co, Fp (q + 4) v w p n (x : Int) m A R = some t ∧ Cp (q + 4) v w p n' m (List.zip (A.drop x) (R.drop x)) = some t ∧ TOk t := by
 intro c
 induction c with
 | zero =>
  intro n n' x m A R hAR hx hA hR hs hn hn' hxc hm1 hm2 hl1 hl2 hst
  obtain ⟨n, rfl⟩ : ∃ i, n = i + 1 := ⟨n - 1, by omega⟩
  obtain ⟨n', rfl⟩ : ∃ i, n' = i + 1 := ⟨n' - 1, by omega⟩
  have hlen := Mn (R.drop x) (fun r hr => (hR r hr).1)
  have hdl : (R.drop x).length = R.length - x := List.length_drop
  have e : R.drop x = [] := List.length_eq_zero_iff.1 (by omega)
  rw [Fp, Cp, e, List.zip_nil_right]
  refine ⟨m, (cf (decide_eq_false (by omega))).trans rfl, (cf (by rfl)).trans ((bs (Q7 _ _ (by omega) hl1 hk)).trans ((bs (Q7 _ _ (by omega) hl2 hk)).trans rfl)), by omega, by omega, hl1, hl2⟩
 | succ c ih =>
  intro n n' x m A R hAR hx hA hR hs hn hn' hxc hm1 hm2 hl1 hl2 hst
  obtain ⟨n, rfl⟩ : ∃ i, n = i + 1 := ⟨n - 1, by omega⟩
  obtain ⟨n', rfl⟩ : ∃ i, n' = i + 1 := ⟨n' - 1, by omega⟩
  have hlen := Mn (R.drop x) (fun r hr => (hR r hr).1)
  have hdl : (R.drop x).length = R.length - x := List.length_drop
  rcases Nat.eq_or_lt_of_le hx with hx0 | hxl
  ·have e : R.drop x = [] := List.length_eq_zero_iff.1 (by omega)
   rw [Fp, Cp, e, List.zip_nil_right]
   exact ⟨m, (cf (decide_eq_false (by omega))).trans rfl, (cf (by rfl)).trans ((bs (Q7 _ _ (by omega) hl1 hk)).trans ((bs (Q7 _ _ (by omega) hl2 hk)).trans rfl)), by omega, by omega, hl1, hl2⟩
  ·have hxA : x < A.length := by omega
   have eR : R.drop x = R[x] :: R.drop (x + 1) := List.drop_eq_getElem_cons hxl
   have eA : A.drop x = A[x] :: A.drop (x + 1) := List.drop_eq_getElem_cons hxA
   have ha := hA A[x] (by rw [eA]; exact List.mem_cons_self ..)
   have hr := hR R[x] (by rw [eR]; exact List.mem_cons_self ..)
   have hA' : ∀ a ∈ A.drop (x + 1), @LE.le Int _ 0 a ∧ @LT.lt Int _ a (v.length : Int) := fun a h => hA a (by rw [eA]; exact List.mem_cons_of_mem _ h)
   have hR' : ∀ r ∈ R.drop (x + 1), L2 r = true ∧ BOk r.2.2.2.2.2.2.2.2 := fun r h => hR r (by rw [eR]; exact List.mem_cons_of_mem _ h)
   have hlen' := Mn (R.drop (x + 1)) (fun r hr => (hR' r hr).1)
   rw [eR] at hs
   simp only [A0] at hs
   obtain ⟨a, hae⟩ : ∃ a : Int, a = A[x] := ⟨_, rfl⟩
   have hd1 : ((R.drop (x + 1)).length : Int) = (R.length : Int) - (x : Int) - 1 := by rw [List.length_drop]; omega
   have gA : Af A (x : Int) = A[x] := Av A x hxA
   have gR : Af R (x : Int) = R[x] := Av R x hxl
   rw [eA, eR, List.zip_cons_cons]
   rw [← hae] at ha gA ⊢
   generalize R[x] = r at hr hs gR ⊢
   obtain ⟨i, rfl⟩ : ∃ i : Nat, a = (i : Int) := ⟨a.toNat, by omega⟩
   have hi : i < v.length := by omega
   have ok := hv _ (List.getElem_mem hi)
   have hwr := Xat hr.1
   obtain ⟨r0, r1, r2, r3, r4, r5, r6, r7, r8⟩ := r
   have hr8 := (Ch hr.1).2.2.2.2.2.2.1
   obtain ⟨d, f1, f2, good⟩ := fwd q ok hr.1 hr.2 hk
   have f3 := Xoc (q + 4) v d.2.1 (by omega) hk
   have f4 := Xet (q + 4) v d.2.1 (by omega) hk
   have f5 := Xf5 d.2.1 v 0
   generalize fi d.2.1 v 0 = t at f3 f4 f5
   have d1 : decide ((x : Int) < ((R.length : Nat) : Int)) = true := decide_eq_true (by omega)
   have dA : decide ((x : Int) < ((A.length : Nat) : Int)) = true := decide_eq_true (by omega)
   have d0 : decide ((0 : Int) ≤ ((x : Nat) : Int)) = true := decide_eq_true (by omega)
   have i1 : decide ((i : Int) < ((v.length : Nat) : Int)) = true := decide_eq_true (by omega)
   have i0 : decide ((0 : Int) ≤ ((i : Nat) : Int)) = true := decide_eq_true (by omega)
   have hdl2 : d.2.2.length ≤ 50 := by
    rcases good with ⟨_, e⟩ | ⟨_, e⟩ | ⟨_, z, e, _⟩ | ⟨_, _, _, e⟩
    ·rw [e]; simp
    ·rw [e]; simp
    ·rw [e]; simp
    ·exact e
   have l2 := Tw (q + 4) v w p (x : Int) t d (by omega) (q + 4) 0 (m.1, m.2.1, m.2.2 + 1) A R (Nat.zero_le _) (by omega) (by show m.1.length + _ ≤ _; omega) (by show m.2.1.length + _ ≤ _; omega) (by omega) (by omega)
   rw [List.drop_zero] at l2
   have w1 : IntKind.i64.wrap (m.2.2 + 1) = m.2.2 + 1 := i64_in _ (show -9223372036854775808 ≤ stp m + 1 ∧ stp m + 1 ≤ 9223372036854775807 by omega)
   have SP : ∀ z, Fp (q + 4) v w p n ((x + 1 : Nat) : Int) (nM d.1 d.2.2 (m.1, m.2.1, m.2.2 + 1)) (nA d.1 t d.2.2.length A) (nR d.1 t d.2.2 R) = some z → Fp (q + 4) v w p (n + 1) (x : Int) m A R = some z := fun z hz => by
    rw [Fp, gA, gR, Av v i hi, w1]
    refine (ct d1).trans ((ct d0).trans ((ct dA).trans ((ct i0).trans ((ct i1).trans ((ct d0).trans ((ct d1).trans ((bs f1).trans ((bs f3).trans ((bs l2).trans ?_)))))))))
    show Fp (q + 4) v w p n (IntKind.i64.wrap ((x : Int) + 1)) _ _ _ = _
    rw [I3 x (by omega)]
    exact hz
   generalize hZ : (List.zip (A.drop (x + 1)) (R.drop (x + 1)) : A8) = Z
   have hZl : Z.length ≤ 30000 := by rw [← hZ, List.length_zip]; omega
   have tl : ((((i : Int), r0, r1, r2, r3, r4, r5, r6, r7, r8) :: Z : A8).take (((((i : Int), r0, r1, r2, r3, r4, r5, r6, r7, r8) :: Z : A8).length : Int)).toNat).drop 1 = Z := by rw [Int.toNat_natCast, List.take_length]; rfl
   have z0 : decide (((((i : Int), r0, r1, r2, r3, r4, r5, r6, r7, r8) :: Z : A8).length : Int) > 0) = true := decide_eq_true (by rw [List.length_cons]; omega)
   have z1 : decide ((0 : Int) < ((((i : Int), r0, r1, r2, r3, r4, r5, r6, r7, r8) :: Z : A8).length : Int)) = true := decide_eq_true (by rw [List.length_cons]; omega)
   have z2 : (decide ((0 : Int) ≤ 1) && decide ((1 : Int) ≤ ((((i : Int), r0, r1, r2, r3, r4, r5, r6, r7, r8) :: Z : A8).length : Int))) = true := by rw [List.length_cons, decide_eq_true (by omega : (1 : Int) ≤ ((Z.length + 1 : Nat) : Int))]; rfl
   have g0 : Af (t := .pair (.int .i64) An) (((i : Int), r0, r1, r2, r3, r4, r5, r6, r7, r8) :: Z) 0 = ((i : Int), r0, r1, r2, r3, r4, r5, r6, r7, r8) := rfl
   rw [Cp, g0, w1, tl]
   dsimp only
   rw [Av v i hi]
   have m2 : 0 ≤ stp m + 1 ∧ stp m + 1 + (c : Int) ≤ 20000 := by omega
   have hs2 : A0 wt (R.drop (x + 1)) ≤ (c : Int) := by omega
   have stay : ∃ z : den Co, Fp (q + 4) v w p n ((x + 1 : Nat) : Int) (m.1, m.2.1, m.2.2 + 1) A R = some z ∧ Cp (q + 4) v w p n' (m.1, m.2.1, m.2.2 + 1) Z = some z ∧ TOk z := by
    rw [← hZ]
    exact ih n n' (x + 1) (m.1, m.2.1, m.2.2 + 1) A R hAR hxl hA' hR' hs2 (by omega) (by omega) (by omega) (by show m.1.length + _ ≤ _; omega) (by show m.2.1.length + _ ≤ _; omega) hl1 hl2 m2
   rcases good with ⟨k0, e⟩ | ⟨k1, e⟩ | ⟨k3, b, e, eb⟩ | ⟨k2, e1, e2, e3⟩
   ·obtain ⟨z, s1, s2, s3⟩ := stay
    rw [e] at SP
    have eM : nM d.1 [] (m.1, m.2.1, m.2.2 + 1) = (m.1, m.2.1, m.2.2 + 1) := by unfold nM; rw [k0]; rfl
    have eA2 : nA d.1 t ([] : Fs).length A = A := by unfold nA; rw [k0]; cases ht : decide (t ≥ 0) <;> simp
    have eR2 : nR d.1 t [] R = R := by unfold nR; rw [k0]; cases ht : decide (t ≥ 0) <;> simp
    rw [eM, eA2, eR2] at SP
    refine ⟨z, SP z s1, ?_, s3⟩
    refine (ct z0).trans ((ct z1).trans ((ct z2).trans ((ct i0).trans ((ct i1).trans ((bs f2).trans ?_)))))
    rw [k0]
    exact s2
   ·rw [e] at SP
    have eM : nM d.1 [(r0, r1, r2, r3, r4, r5, r6, r7, r8)] (m.1, m.2.1, m.2.2 + 1) = (m.1 ++ [(r0, r1, r2, r3, r4, r5, r6, r7, r8)], m.2.1, m.2.2 + 1) := by unfold nM; rw [k1]; rfl
    have eA2 : nA d.1 t ([(r0, r1, r2, r3, r4, r5, r6, r7, r8)] : Fs).length A = A := by unfold nA; rw [k1]; rfl
    have eR2 : nR d.1 t [(r0, r1, r2, r3, r4, r5, r6, r7, r8)] R = R := by unfold nR; rw [k1]; rfl
    rw [eM, eA2, eR2] at SP
    obtain ⟨z, s1, s2, s3⟩ := ih n n' (x + 1) (m.1 ++ [(r0, r1, r2, r3, r4, r5, r6, r7, r8)], m.2.1, m.2.2 + 1) A R hAR hxl hA' hR' hs2 (by omega) (by omega) (by omega) (by show (m.1 ++ _).length + _ ≤ _; rw [List.length_append, List.length_singleton]; omega) (by show m.2.1.length + _ ≤ _; omega)
     (fun y hy => (List.mem_append.1 hy).elim (hl1 y) (fun hy => by obtain rfl := List.mem_singleton.1 hy; show r8.length ≤ _; omega)) hl2 m2
    rw [hZ] at s2
    refine ⟨z, SP z s1, ?_, s3⟩
    refine (ct z0).trans ((ct z1).trans ((ct z2).trans ((ct i0).trans ((ct i1).trans ((bs f2).trans ?_)))))
    rw [k1, e]
    exact (ct rfl).trans ((ct (decide_eq_true (by rw [List.length_singleton]; omega))).trans s2)
   ·rw [e] at SP
    have eM : nM d.1 [b] (m.1, m.2.1, m.2.2 + 1) = (m.1, m.2.1 ++ [b], m.2.2 + 1) := by unfold nM; rw [k3]; rfl
    have eA2 : nA d.1 t ([b] : Fs).length A = A := by unfold nA; rw [k3]; rfl
    have eR2 : nR d.1 t [b] R = R := by unfold nR; rw [k3]; rfl
    rw [eM, eA2, eR2] at SP
    obtain ⟨z, s1, s2, s3⟩ := ih n n' (x + 1) (m.1, m.2.1 ++ [b], m.2.2 + 1) A R hAR hxl hA' hR' hs2 (by omega) (by omega) (by omega) (by show m.1.length + _ ≤ _; omega) (by show (m.2.1 ++ _).length + _ ≤ _; rw [List.length_append, List.length_singleton]; omega)
     hl1 (fun y hy => (List.mem_append.1 hy).elim (hl2 y) (fun hy => by obtain rfl := List.mem_singleton.1 hy; exact eb)) m2
    rw [hZ] at s2
    refine ⟨z, SP z s1, ?_, s3⟩
    refine (ct z0).trans ((ct z1).trans ((ct z2).trans ((ct i0).trans ((ct i1).trans ((bs f2).trans ?_)))))
    rw [k3, e]
    exact (cf rfl).trans ((ct rfl).trans ((ct (decide_eq_true (by rw [List.length_singleton]; omega))).trans s2))
   ·have eM : nM d.1 d.2.2 (m.1, m.2.1, m.2.2 + 1) = (m.1, m.2.1, m.2.2 + 1) := by unfold nM; rw [k2]; rfl
    by_cases ht : t ≥ 0
    ·have eA2 : nA d.1 t d.2.2.length A = A ++ List.replicate d.2.2.length t := by unfold nA; rw [k2, decide_eq_true ht]; rfl
     have eR2 : nR d.1 t d.2.2 R = R ++ d.2.2 := by unfold nR; rw [k2, decide_eq_true ht]; rfl
     rw [eM, eA2, eR2] at SP
     have dA2 : (A ++ List.replicate d.2.2.length t).drop (x + 1) = A.drop (x + 1) ++ List.replicate d.2.2.length t := List.drop_append_of_le_length (by omega)
     have dR2 : (R ++ d.2.2).drop (x + 1) = R.drop (x + 1) ++ d.2.2 := List.drop_append_of_le_length (by omega)
     have zz : (List.zip ((A ++ List.replicate d.2.2.length t).drop (x + 1)) ((R ++ d.2.2).drop (x + 1)) : A8) = Z ++ d.2.2.map fun r => (t, r) := by
      rw [dA2, dR2, List.zip_append (by rw [List.length_drop, List.length_drop]; omega), hZ]
      congr 1
      generalize d.2.2 = l
      induction l with
      | nil => rfl
      | cons y l ihl => rw [List.length_cons, List.replicate_succ, List.zip_cons_cons, List.map_cons, ihl]
     obtain ⟨z, s1, s2, s3⟩ := ih n n' (x + 1) (m.1, m.2.1, m.2.2 + 1) (A ++ List.replicate d.2.2.length t) (R ++ d.2.2) (by rw [List.length_append, List.length_append, List.length_replicate, hAR]) (by rw [List.length_append]; omega)
      (fun y hy => by
       rw [dA2] at hy
       rcases List.mem_append.1 hy with hy | hy
       ·exact hA' y hy
       ·rw [List.eq_of_mem_replicate hy]; show 0 ≤ t ∧ t < (v.length : Int); omega)
      (fun y hy => by
       rw [dR2] at hy
       exact (List.mem_append.1 hy).elim (hR' y) (e1 y))
      (by rw [dR2, Sg]; omega) (by omega) (by omega) (by omega) (by show m.1.length + _ ≤ _; omega) (by show m.2.1.length + _ ≤ _; omega) hl1 hl2 m2
     rw [zz] at s2
     have l3 := Qg (q + 4) v w p t (m.1, m.2.1, m.2.2 + 1) d.2.2 (by omega) (q + 4) 0 Z (Nat.zero_le _) (by omega) (by omega)
     rw [List.drop_zero] at l3
     refine ⟨z, SP z s1, ?_, s3⟩
     refine (ct z0).trans ((ct z1).trans ((ct z2).trans ((ct i0).trans ((ct i1).trans ((bs f2).trans ?_)))))
     rw [k2]
     exact (cf rfl).trans ((cf rfl).trans ((ct rfl).trans ((bs f4).trans ((ct (decide_eq_true ht)).trans ((bs l3).trans s2)))))
    ·have eA2 : nA d.1 t d.2.2.length A = A := by unfold nA; rw [k2, decide_eq_false ht]; rfl
     have eR2 : nR d.1 t d.2.2 R = R := by unfold nR; rw [k2, decide_eq_false ht]; rfl
     rw [eM, eA2, eR2] at SP
     obtain ⟨z, s1, s2, s3⟩ := stay
     refine ⟨z, SP z s1, ?_, s3⟩
     refine (ct z0).trans ((ct z1).trans ((ct z2).trans ((ct i0).trans ((ct i1).trans ((bs f2).trans ?_)))))
     rw [k2]
     exact (cf rfl).trans ((cf rfl).trans ((ct rfl).trans ((bs f4).trans ((cf (decide_eq_false ht)).trans s2))))
end Go.Proofs.Ytdmepjjepogddaa.Gn
end

section
namespace Go.Proofs.Ytdmepjjepogddaa.Gn
open Go.Rf Go.IntWalk
set_option linter.unusedVariables false
set_option linter.unusedSimpArgs false
theorem Xff (q : Nat) {v : L9} (w : Int) {p : den An} (hl : v.length ≤ 1048576) (hs : E0 v ≤ 1048576) (hb : BOk p.2.2.2.2.2.2.2.2) (hk : 1048576 < q + 4) : ∃ t : den Co, F6 (q + 4) v w p = some t ∧ F9 (q + 4) v w p = some t ∧ TOk t := by
 have none' : TOk (([], [], 0) : den Co) := ⟨by simp, by simp, fun r h => (by cases h), fun r h => (by cases h)⟩
 obtain ⟨b, n1, n2, n3⟩ := Xlp q v hl hs hk
 have p1 := N0 (q + 4) p
 have p2 := Xes (q + 4) p
 have i1 := B3 (q + 4) w 0 (IntKind.i64.wrap ((v.length : Int) - 1))
 have i2 := G7 (q + 4) w 0 (IntKind.i64.wrap ((v.length : Int) - 1))
 have wl1 : IntKind.i64.wrap ((v.length : Int) - 1) = (v.length : Int) - 1 := i64_in _ (by omega)
 unfold F6 Xfb F9 Xfy; (try dsimp only [Aw])
 cases b with
 | false => exact ⟨_, (bs n1).trans ((ct rfl).trans rfl), (bs n2).trans ((ct rfl).trans rfl), none'⟩
 | true =>
  cases ho : L2 p with
  | false =>
   rw [ho] at p1 p2
   refine ⟨_, (bs n1).trans ((cf rfl).trans ((bs p1).trans ((ct rfl).trans rfl))), (bs n2).trans ((cf rfl).trans ((bs i2).trans ?_)), none'⟩
   cases inB w 0 (IntKind.i64.wrap ((v.length : Int) - 1)) with
   | false => rfl
   | true => exact (cf rfl).trans ((bs p2).trans rfl)
  | true =>
   rw [ho] at p1 p2
   cases hw : inB w 0 (IntKind.i64.wrap ((v.length : Int) - 1)) with
   | false =>
    rw [hw] at i1 i2
    exact ⟨_, (bs n1).trans ((cf rfl).trans ((bs p1).trans ((cf rfl).trans ((bs i1).trans ((ct rfl).trans rfl))))), (bs n2).trans ((cf rfl).trans ((bs i2).trans ((ct rfl).trans rfl))), none'⟩
   | true =>
    rw [hw] at i1 i2
    rw [wl1] at hw
    have hw := B2 hw
    obtain ⟨h1, h2⟩ := n3 rfl
    obtain ⟨t, t1, t2, t3⟩ := trav q v w p h1 h2 hk 12288 (q + 4) (q + 4) 0 ([], [], 0) [w] [p] rfl (by simp) (fun a ha => by
      have e : a = w := by simpa using ha
      rw [e]; show 0 ≤ w ∧ w < (v.length : Int); omega) (fun r hr => by
      have e : r = p := by simpa using hr
      rw [e]; exact ⟨ho, hb⟩) (by
      have := Xpy ho
      rw [List.drop_zero]
      simp only [A0]
      omega) (by omega) (by omega) (by omega) (by simp) (by simp) (fun r h => by cases h) (fun r h => by cases h) (by show (0 : Int) ≤ 0 ∧ (0 : Int) + ((12288 : Nat) : Int) ≤ 20000; omega)
    refine ⟨t, (bs n1).trans ((cf rfl).trans ((bs p1).trans ((cf rfl).trans ((bs i1).trans ((cf rfl).trans t1))))), (bs n2).trans ((cf rfl).trans ((bs i2).trans ((cf rfl).trans ((bs p2).trans ((cf rfl).trans ((bs ?_).trans rfl)))))), t3⟩
    unfold F29 Wr; (try dsimp only [Aw])
    exact t2
theorem T0 : ∀ l : Fs, (∀ r ∈ l, r.2.2.2.2.2.2.2.2.length ≤ 1048576) → A0 wP l ≤ 1048584 * (l.length : Int)
 | [], _ => by simp [A0]
 | a :: l, h => by
  have h1 := h a (by simp)
  have h2 := T0 l (fun x hx => h x (by simp [hx]))
  simp only [A0, wP, List.length_cons]
  omega
theorem Uf (q : Nat) (v : L9) (w : Int) (p : den An) (hv : v.length ≤ maxLen) (hvs : ∀ s ∈ v, s.2.length ≤ maxLen) (hp : p.2.2.2.2.2.2.2.2.length ≤ maxLen) (hb : BOk p.2.2.2.2.2.2.2.2) (hk : 1048576 < q + 4) : F3 (q + 4) v w p = some true := by
 unfold F3 Xfj; (try dsimp only)
 obtain ⟨b, hb1, hb2⟩ := Xux (q + 4) v hv hvs hk
 refine (bs hb1).trans ?_
 by_cases c : b < 0
 ·exact (ct (decide_eq_true c)).trans rfl
 refine (cf (decide_eq_false c)).trans ?_
 obtain ⟨b0, b1, hl, hs⟩ : 0 ≤ b ∧ b ≤ 1048576 ∧ v.length ≤ 1048576 ∧ E0 v ≤ 1048576 := hb2.resolve_left c
 refine (bs (Xsr (q + 4) p b hp ⟨b0, b1⟩)).trans ?_
 by_cases c2 : ¬ (p.2.2.2.2.2.2.2.2.length : Int) ≤ b
 ·rw [if_neg c2]
  exact (ct (by decide)).trans rfl
 replace c2 := Decidable.not_not.1 c2
 rw [if_pos c2]
 refine (cf (decide_eq_false (by omega))).trans ?_
 have hpl : p.2.2.2.2.2.2.2.2.length ≤ 1048576 := by omega
 have cv := Xpm (q + 4) v hl hs hk
 have cp := Xtq (q + 4) p hpl hk
 obtain ⟨t, t1, t2, t3, t4, t5, t6⟩ := Xff q w (p := p) hl hs hb hk
 have et := Xbh (q + 4) t (by omega) (by omega) t5 t6 hk
 have ev := Xdw (q + 4) v hl hs hk
 have ep := Sn (q + 4) p hpl hk
 have sv := sumT v
 have svp := Bv Ur v
 have mv := Xki (q + 4) v 1 hl hs hk (by omega) (by omega)
 have mp := Xci (q + 4) p.2.2.2.2.2.2.2.2 (1 + A0 wT v) (by omega) (by omega) (by omega)
 have g1 := Bv Oq t.1
 have g2 := Bv Oq t.2.1
 have u1 := T0 t.1 t5
 have u2 := T0 t.2.1 t6
 have m1 := Xeg (q + 4) t.1 1 (by omega) t5 hk (by omega) (by omega)
 have m2 := Xeg (q + 4) t.2.1 (1 + A0 wP t.1) (by omega) t6 hk (by omega) (by omega)
 have h1 := Xei (q + 4) t.1 1 (by omega) t5 hk (by omega) (by omega)
 have h2 := Xei (q + 4) t.2.1 (1 + A0 wP t.1) (by omega) t6 hk (by omega) (by omega)
 have mt : F15 (q + 4) t 1 = some (1 + A0 wP t.1 + A0 wP t.2.1, Be gP wP 1 t.1, Be gP wP (1 + A0 wP t.1) t.2.1) := by
  unfold F15; (try dsimp only)
  exact (bs m1).trans ((bs m2).trans rfl)
 have ht : F16 (q + 4) (Be gP wP 1 t.1, Be gP wP (1 + A0 wP t.1) t.2.1, t.2.2) 1 = some (1 + A0 wP t.1 + A0 wP t.2.1) := by
  unfold F16 Vs; (try dsimp only)
  exact (bs h1).trans ((cf (decide_eq_false (by omega))).trans ((bs h2).trans ((cf (decide_eq_false (by omega))).trans rfl)))
 have z1 : decide (1 + A0 wP t.1 + A0 wP t.2.1 < 0) = false := decide_eq_false (by omega)
 have z2 : (1 + A0 wP t.1 + A0 wP t.2.1 != 1 + A0 wP t.1 + A0 wP t.2.1) = false := bne_self_eq_false _
 refine (bs cv).trans ((bs cp).trans ((bs t1).trans ((bs cv).trans ((bs cp).trans ((bs t2).trans ((bs et).trans ((cf rfl).trans ?_)))))))
 refine (bs cv).trans ((bs ev).trans ((cf rfl).trans ((bs cp).trans ((bs ep).trans ((cf rfl).trans ((bs mv).trans ?_))))))
 refine (bs (show F14 (q + 4) p (1 + A0 wT v) = _ from (bs mp).trans rfl)).trans ?_
 refine (cf (decide_eq_false (by show ¬ 1 + A0 wT v + (p.2.2.2.2.2.2.2.2.length : Int) < 0; omega))).trans ?_
 refine (bs et).trans ((cf rfl).trans ((bs mt).trans ((bs ht).trans ((cf z1).trans ((cf z2).trans ?_)))))
 exact (bs cv).trans ((bs cp).trans ((bs t2).trans ((bs et).trans ((cf rfl).trans ((bs ht).trans ((cf z1).trans ((cf z2).trans rfl)))))))
theorem Xk5 (v : L9) (hv : Wf (.sl sta) v) (w : Int) (hw : (Lit.int .i64 w).wf = true) (p : den An) (hp : Wf An p) :
  ∃ k, (∀ (v : L9) (w : Int) (p : den An), Contract Try.prog 3 [.one (.l (.s .ro sta v)), .one (.l (.v (.int .i64 w))), .agg ((Rf.enc .ro An p).map .l)] ⟨F3 k v w p, fun r => (.one (.v (.bool r)), [])⟩) ∧ F3 k v w p = some true :=
 ⟨1048600 + 4, fun v w p => (F3_q (1048600 + 4)).con (v, w, p, ()), Uf 1048600 v w p hv.1 (fun s hs => (hv.2 s hs).2.1) hp.2.2.2.2.2.2.2.2.1 (BOk.of hp.2.2.2.2.2.2.2.2) (by omega)⟩
end Go.Proofs.Ytdmepjjepogddaa.Gn
end
