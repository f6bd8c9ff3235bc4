/-
  What the proof of this row needs, part 6: the typed evaluator of the translated code, the functions that the law reaches as plain functions, and what they answer.
-/
import Derived.Test.YtdmepjjepogddaaGreatRows
import Derived.JoinedOf
import Derived.KernelRfl
import Derived.Test.YtdmepjjepogddaaGreatA5
section
namespace Go.Proofs.YtdmepjjepogddaaGreat.Gn
open Go.Rf Go.IntWalk
set_option linter.unusedVariables false
set_option linter.unusedSimpArgs false
theorem Xs9 (q : Nat) (v : rtL) (r : den Ci) (hl : v.length ≤ 1000) (hk : 1048576 < q + 4) : ∀ (n j : Nat) (b : Bool) (m : rtL), j ≤ v.length → v.length - j < n → m.length ≤ 2 * j → Sm (Ej (q + 4) v r n b (j : Int) m) fun z => z.1.length ≤ 8
 | 0, j, b, m, _, h, _ => by omega
 | n + 1, j, b, m, hj, h, hm => by
  rw [Ej]
  unfold Kq; (try dsimp only [Az, Bi, Dg])
  obtain ⟨ok, o1, _, _⟩ := X0w q v (by omega) hk
  have o2 := X2 (q + 4) r
  rcases Nat.lt_or_ge j v.length with hlt | hge
  ·have d1 : decide ((j : Int) < (v.length : Int)) = true := decide_eq_true (by omega)
   have d0 : decide ((0 : Int) ≤ (j : Int)) = true := decide_eq_true (by omega)
   have nx := fun (b : Bool) (m : rtL) (hm : m.length ≤ 2 * (j + 1)) => Xs9 q v r hl hk n (j + 1) b m hlt (by omega) hm
   have j2 : Sm (E0 (q + 4) v r (Ej (q + 4) v r n) some m (j : Int)) fun z => z.1.length ≤ 8 := by
    unfold E0; (try dsimp only [Bi, Dg])
    rw [F6 j (by omega)]
    exact Sm.ct (decide_eq_true (by simp; omega)) (nx _ _ (by simp; omega))
   have j1 : Sm (E7 (q + 4) v r (Ej (q + 4) v r n) some m (j : Int)) fun z => z.1.length ≤ 8 := by
    unfold E7; (try dsimp only [Bi, Dg])
    rw [F6 j (by omega)]
    refine Sm.ct (decide_eq_true (by simp; omega)) (Sm.cond (fun _ => j2) (fun _ => Sm.cond (fun _ => j2) (fun _ => nx _ _ (by simp; omega))))
   have j3 : ∀ b : Bool, Sm (Dp (q + 4) v r (Ej (q + 4) v r n) some (j : Int) m b) fun z => z.1.length ≤ 8 := fun b => by
    unfold Dp; (try dsimp only [Bi])
    rw [F6 j (by omega)]
    refine Sm.cond (fun _ => Sm.ct (decide_eq_true (by simp; omega)) (nx _ _ (by simp; omega))) (fun _ => Sm.cond (fun _ => Sm.ct (decide_eq_true (by simp; omega)) (nx _ _ (by simp; omega))) (fun _ => nx _ _ (by omega)))
   exact Sm.ct d1 (Sm.ct d0 (Sm.ct d1 (Sm.cond (fun _ => Sm.cond (fun _ => j1) (fun _ => Sm.cond (fun _ => Sm.cond (fun _ => j1) (fun _ => j3 _)) (fun _ => j3 _))) (fun _ => j3 _))))
  ·refine Sm.cf (decide_eq_false (by omega)) (Sm.cond (fun _ => Sm.ct (decide_eq_true (by simp; omega)) ?_) (fun _ => ?_))
   ·rw [o1, Option.bind_some]
    refine Sm.cond (fun _ => ⟨_, rfl, by simp⟩) (fun _ => ?_)
    rw [o2, Option.bind_some]
    exact Sm.cond (fun _ => ⟨_, rfl, by simp⟩) (fun _ => Sm.cond (fun _ => ⟨_, rfl, by simp⟩) (fun c => ⟨_, rfl, by have := of_decide_eq_false c; dsimp only; omega⟩))
   ·rw [o1, Option.bind_some]
    refine Sm.cond (fun _ => ⟨_, rfl, by simp⟩) (fun _ => ?_)
    rw [o2, Option.bind_some]
    exact Sm.cond (fun _ => ⟨_, rfl, by simp⟩) (fun _ => Sm.cond (fun _ => ⟨_, rfl, by simp⟩) (fun c => ⟨_, rfl, by have := of_decide_eq_false c; dsimp only; omega⟩))
theorem Xh4 (q : Nat) (v : rtL) (r : den Ci) (hl : v.length ≤ 1000) (hk : 1048576 < q + 4) : Sm (Xx (q + 4) v r) fun z => z.1.length ≤ 8 :=
 Xs9 q v r hl hk (q + 4) 0 false [] (Nat.zero_le _) (by omega) (by simp)
theorem Wa (q : Nat) (v : A1 × Int) (w : Int) {b : A1} (hb : BOk b) (hl : b.length ≤ 2000) (hk : 1048576 < q + 4) (many kk : Nat) (hm : many ≤ 5) (hkk : kk ≤ 5) (out : Fe) : ∀ (n j : Nat) (p : Int) (s : den sta), j ≤ many → many - j < n → 0 ≤ p → p + 4 * (many - j : Nat) ≤ 900000 → s.2.length ≤ 8 →
  Sm (Ih (q + 4) v w n (many : Int) (kk : Int) (j : Int) (b, p) out s) fun y => y.1 = (many : Int) ∧ y.2.1 = (kk : Int) ∧ (∃ p' : Int, y.2.2.2.1 = (b, p') ∧ p ≤ p' ∧ p' ≤ p + 4 * (many - j : Nat)) ∧ y.2.2.2.2.1 = out ∧ y.2.2.2.2.2.2.length ≤ 8
 | 0, j, p, s, _, h, _, _, _ => by omega
 | n + 1, j, p, s, hj, h, h0, hp, hs => by
  rw [Ih]
  unfold Mr; (try dsimp only)
  rcases Nat.lt_or_ge j many with hlt | hge
  ·have nx := fun (p' : Int) (s' : den sta) (h1 : p ≤ p') (h2 : p' ≤ p + 4) (hs : s'.2.length ≤ 8) => Wa q v w hb hl hk many kk hm hkk out n (j + 1) p' s' hlt (by omega) (by omega) (by omega) hs
   have O5 := fun (p' : Int) (s' : den sta) (h1 : p ≤ p') (h2 : p' ≤ p + 4) (hs : s'.2.length ≤ 8) => (show Sm (Ih (q + 4) v w n (many : Int) (kk : Int) ((j + 1 : Nat) : Int) (b, p') out s') fun y => y.1 = (many : Int) ∧ y.2.1 = (kk : Int) ∧ (∃ p' : Int, y.2.2.2.1 = (b, p') ∧ p ≤ p' ∧ p' ≤ p + 4 * (many - j : Nat)) ∧ y.2.2.2.2.1 = out ∧ y.2.2.2.2.2.2.length ≤ 8 from by
    obtain ⟨y, e, e1, e2, ⟨p2, e3, e4, e5⟩, e6, e7⟩ := nx p' s' h1 h2 hs
    exact ⟨y, e, e1, e2, ⟨p2, e3, by omega, by omega⟩, e6, e7⟩)
   have rp := fun (r : den Ci) => Xh4 q s.2 r (by omega) hk
   have w1 : IntKind.i64.wrap ((many : Int) + 1) = (many : Int) + 1 := i64_in _ (by omega)
   rw [F6 j (by omega)]
   have j1 : ∀ (x : Int), Sm (G1 (q + 4) v w (Ih (q + 4) v w n) (fun y2 => some y2) (x, (b, p + 1 + 1)) (many : Int) s (j : Int) (kk : Int) out) fun y => y.1 = (many : Int) ∧ y.2.1 = (kk : Int) ∧ (∃ p' : Int, y.2.2.2.1 = (b, p') ∧ p ≤ p' ∧ p' ≤ p + 4 * (many - j : Nat)) ∧ y.2.2.2.2.1 = out ∧ y.2.2.2.2.2.2.length ≤ 8 := fun x => by
    unfold G1; (try dsimp only)
    rw [w1, F6 j (by omega)]
    exact pk _ hb hl (by omega) (by omega) (by omega) fun _ _ _ => pk _ hb hl (by omega) (by omega) (by omega) fun _ _ _ => (rp _).bind fun z hz => O5 _ _ (by omega) (by omega) hz
   refine Sm.ct (decide_eq_true (by omega)) (Sm.cond (fun _ => ?_) (fun _ => O5 p s (by omega) (by omega) hs))
   refine pk _ hb hl (by omega) (by omega) (by omega) fun x _ _ => ?_
   refine Sm.cond (fun _ => Sm.cond (fun _ => ?_) (fun _ => ?_)) (fun _ => O5 _ s (by omega) (by omega) hs)
   ·refine pk _ hb hl (by omega) (by omega) (by omega) fun y _ _ => Sm.cond (fun _ => j1 y) (fun _ => ?_)
    exact pk _ hb hl (by omega) (by omega) (by omega) fun _ _ _ => (rp _).bind fun z hz => O5 _ _ (by omega) (by omega) hz
   ·refine pk _ hb hl (by omega) (by omega) (by omega) fun y _ _ => Sm.cond (fun _ => j1 y) (fun _ => ?_)
    exact pk _ hb hl (by omega) (by omega) (by omega) fun _ _ _ => (rp _).bind fun z hz => O5 _ _ (by omega) (by omega) hz
  ·exact Sm.cf (decide_eq_false (by omega)) ⟨_, rfl, rfl, rfl, ⟨p, rfl, by omega, by omega⟩, rfl, hs⟩
def Xno (l : Fe) : Prop := l.length ≤ 6 ∧ ∀ s ∈ l, s.2.length ≤ 8
theorem U4 (q : Nat) (v : A1 × Int) (w : Int) {b : A1} (hb : BOk b) (hl : b.length ≤ 2000) (hk : 1048576 < q + 4) (many : Nat) (h1 : 1 ≤ many) (hm : many ≤ 5) : ∀ (n kk : Nat) (p : Int) (out : Fe), kk ≤ many → many - kk < n → 0 ≤ p → p + 30 * (many - kk : Nat) ≤ 800000 → out.length = kk → (∀ s ∈ out, s.2.length ≤ 8) →
  Sm (Iw (q + 4) v w n (many : Int) (kk : Int) (b, p) out) fun z => Xno z.1 ∧ ∃ p' : Int, z.2 = (b, p') ∧ 0 ≤ p' ∧ p' ≤ p + 30 * (many - kk : Nat) + 1
 | 0, kk, p, out, _, h, _, _, _, _ => by omega
 | n + 1, kk, p, out, hj, h, h0, hp, ho, hs => by
  rw [Iw]
  rcases Nat.lt_or_ge kk many with hlt | hge
  ·refine Sm.ct (decide_eq_true (by omega)) ?_
   refine (Wa q v w hb hl hk many kk hm (by omega) out (q + 4) 0 p (IntKind.i64.wrap (10 + (kk : Int)), []) (Nat.zero_le _) (by omega) h0 (by omega) (by simp)).bind fun y hy => ?_
   obtain ⟨y1, y2, y3, y4, y5, y6⟩ := y
   obtain ⟨e1, e2, ⟨p1, e3, e4, e5⟩, e6, e7⟩ := hy
   dsimp only at e1 e2 e3 e6 e7
   subst e1 e2 e3 e6
   dsimp only
   rw [F6 kk (by omega)]
   have nx := fun (p' : Int) (s : den sta) (h1' : p ≤ p') (h2 : p' ≤ p + 22) (hs' : s.2.length ≤ 8) => (show Sm (Iw (q + 4) v w n (many : Int) ((kk + 1 : Nat) : Int) (b, p') (y5 ++ [s])) fun z => Xno z.1 ∧ ∃ p'' : Int, z.2 = (b, p'') ∧ 0 ≤ p'' ∧ p'' ≤ p + 30 * (many - kk : Nat) + 1 from by
    obtain ⟨z, a1, a2, p2, a3, a4, a5⟩ := U4 q v w hb hl hk many h1 hm n (kk + 1) p' (y5 ++ [s]) hlt (by omega) (by omega) (by omega) (by simp [ho]) (fun x hx => (List.mem_append.1 hx).elim (hs x) (fun hx => by rw [List.mem_singleton.1 hx]; exact hs'))
    exact ⟨z, a1, a2, p2, a3, a4, by omega⟩)
   refine pk _ hb hl (by omega) (by omega) (by omega) fun x _ _ => Sm.cond (fun _ => ?_) (fun _ => ?_)
   ·refine pk _ hb hl (by omega) (by omega) (by omega) fun x2 _ _ => (Xh4 q y6.2 _ (by omega) hk).bind fun z hz => ?_
    exact Sm.ct (decide_eq_true (by rw [List.length_singleton]; omega)) (nx _ (y6.1, z.1) (by omega) (by omega) hz)
   ·exact Sm.ct (decide_eq_true (by rw [List.length_singleton]; omega)) (nx _ y6 (by omega) (by omega) e7)
  ·refine Sm.cf (decide_eq_false (by omega)) ?_
   refine odk _ hb hl h0 (by omega) fun x p' e1 e2 => ?_
   have h00 : 0 < out.length := by omega
   have g0 : Aw out 0 = out[0] := Av out 0 h00
   dsimp only
   refine Sm.cond (fun _ => Sm.ct (decide_eq_true (by omega)) (Sm.ct (decide_eq_true (by rw [List.length_singleton]; omega)) ⟨_, rfl, ⟨by simp; omega, fun s hs' => ?_⟩, p', rfl, by omega, by omega⟩)) (fun _ => ⟨_, rfl, ⟨by dsimp only; omega, hs⟩, p', rfl, by omega, by omega⟩)
   rcases List.mem_append.1 hs' with h' | h'
   ·exact hs s h'
   ·rw [List.mem_singleton.1 h', g0]; exact hs _ (List.getElem_mem h00)
theorem Xbm : ∀ {l : Fe} {n : Nat}, l.length ≤ n → (∀ s ∈ l, s.2.length ≤ 8) → T9 l ≤ 8 * n
 | [], n, _, _ => by simp [T9]
 | a :: l, n, h, hs => by
  rw [List.length_cons] at h
  have h1 := hs a (by simp)
  have h2 := Xbm (l := l) (n := n - 1) (by omega) (fun s hs' => hs s (by simp [hs']))
  simp only [T9]
  omega
theorem X5h (q : Nat) (w : Int) {b : A1} (hb : BOk b) (hl : b.length ≤ 2000) (hk : 1048576 < q + 4) {p : Int} (hp : 0 ≤ p ∧ p ≤ 1000) : Sm (F70 (q + 4) (b, p) w) fun z => Xno z.1 ∧ ∃ p' : Int, z.2 = (b, p') ∧ 0 ≤ p' ∧ p' ≤ p + 200 := by
 unfold F70 Xh9; (try dsimp only)
 refine pk _ hb hl (by omega) (by omega) (by omega) fun x hx1 hx2 => ?_
 obtain ⟨c, rfl⟩ := Int.eq_ofNat_of_zero_le hx1
 rw [show IntKind.i64.wrap (1 + (c : Int)) = ((c + 1 : Nat) : Int) by rw [i64_in _ (by omega)]; omega]
 obtain ⟨z, a1, a2, p2, a3, a4, a5⟩ := U4 q (b, p) w hb hl hk (c + 1) (by omega) (by omega) (q + 4) 0 (p + 1) [] (Nat.zero_le _) (by omega) (by omega) (by omega) rfl (fun s hs => by cases hs)
 exact ⟨z, a1, a2, p2, a3, a4, by omega⟩
end Go.Proofs.YtdmepjjepogddaaGreat.Gn
end

section
namespace Go.Proofs.YtdmepjjepogddaaGreat.Gn
open Go.Rf Go.IntWalk
set_option linter.unusedVariables false
set_option linter.unusedSimpArgs false
abbrev nmL : Type := List (den nam)
theorem Xpd (s : ByteArray) : (Go.Rf.bytesOf s).length = s.size := by simp [Go.Rf.bytesOf]
theorem Xx2 (s : ByteArray) (j : Nat) (h : j < s.size) : @Eq Int (Aw (t := .int .u8) (Go.Rf.bytesOf s) (j : Int)) (atB s (j : Int)) := by
 have h2 : j < s.data.toList.length := by simpa using h
 rw [Av (t := .int .u8) (Go.Rf.bytesOf s) j (by rw [Xpd]; exact h)]
 simp [Go.Rf.bytesOf, atB, List.getD_eq_getElem?_getD, List.getElem?_eq_getElem h2]
theorem tx_l (k : Nat) (s : ByteArray) (hs : s.size ≤ 1000) : ∀ (n j : Nat), j ≤ s.size → s.size - j < n → ∃ b, J1 k s n (j : Int) = some b ∧ Jt k s n (j : Int) = some b
 | 0, j, _, h => by omega
 | n + 1, j, hj, h => by
  rw [J1, Jt]
  unfold J0 Jm; (try dsimp only [Az])
  rw [Xpd]
  rcases Nat.lt_or_ge j s.size with hlt | hge
  ·have d1 : decide ((j : Int) < ((s.size : Nat) : Int)) = true := decide_eq_true (by omega)
   have d0 : decide ((0 : Int) ≤ ((j : Nat) : Int)) = true := decide_eq_true (by omega)
   obtain ⟨b, h1, h2⟩ := tx_l k s hs n (j + 1) hlt (by omega)
   rw [F6 j (by omega)]
   have e := Xx2 s j hlt
   by_cases c1 : atB s (j : Int) < 97
   ·exact ⟨false, (ct d1).trans ((ct d0).trans ((ct d1).trans ((ct (decide_eq_true c1)).trans rfl))), (ct d1).trans ((ct d0).trans ((ct d1).trans ((ct (by rw [e]; exact decide_eq_true c1)).trans rfl)))⟩
   ·by_cases c2 : atB s (j : Int) > 122
    ·exact ⟨false, (ct d1).trans ((ct d0).trans ((ct d1).trans ((cf (decide_eq_false c1)).trans ((ct d0).trans ((ct d1).trans ((ct (decide_eq_true c2)).trans rfl)))))), (ct d1).trans ((ct d0).trans ((ct d1).trans ((cf (by rw [e]; exact decide_eq_false c1)).trans ((ct (by rw [e]; exact decide_eq_true c2)).trans rfl))))⟩
    ·exact ⟨b, (ct d1).trans ((ct d0).trans ((ct d1).trans ((cf (decide_eq_false c1)).trans ((ct d0).trans ((ct d1).trans ((cf (decide_eq_false c2)).trans h1)))))), (ct d1).trans ((ct d0).trans ((ct d1).trans ((cf (by rw [e]; exact decide_eq_false c1)).trans ((cf (by rw [e]; exact decide_eq_false c2)).trans h2))))⟩
  ·have : j = s.size := by omega
   subst this
   have d9 : decide (((s.size : Nat) : Int) < ((s.size : Nat) : Int)) = false := decide_eq_false (by omega)
   exact ⟨_, (cf d9).trans ((bs (Bo k ((s.size : Nat) : Int) 1 12)).trans rfl), (cf d9).trans ((bs (B2 k ((s.size : Nat) : Int) 1 12)).trans rfl)⟩
theorem Xnk (k : Nat) (s : ByteArray) (hs : s.size ≤ 1000) (hk : 1048576 < k) : ∃ b, F174 k s = some b ∧ F105 k s = some b := tx_l k s hs k 0 (Nat.zero_le _) (by omega)
def Sz (n : den nam) : Prop := ByteArray.size n.1 ≤ 1000 ∧ ByteArray.size n.2.2.2.1 ≤ 1000
structure NK (k : Nat) (n : den nam) : Prop where
 ok : F170 k n = some true
 tx : F174 k n.1 = some true ∧ F105 k n.1 = some true
 tm : @LE.le Int _ 1 n.2.2.2.2 ∧ @LE.le Int _ n.2.2.2.2 50
 kd : @Eq Int n.2.1 0 ∨ @Eq Int n.2.1 1 ∨ @Eq Int n.2.1 2
 al : @Eq Int n.2.1 2 → F174 k n.2.2.2.1 = some true ∧ F105 k n.2.2.2.1 = some true
theorem X92 (k : Nat) (n : den nam) (hn : Sz n) (hk : 1048576 < k) : ∃ b, Xgm k n = some b ∧ F170 k n = some b ∧ (b = true → NK k n) := by
 obtain ⟨v0, v1, v2, v3, v4⟩ := n
 obtain ⟨h0, h3⟩ := hn
 obtain ⟨b0, s0, i0⟩ := Xnk k v0 h0 hk
 obtain ⟨b3, s3, i3⟩ := Xnk k v3 h3 hk
 have e4 := Bo k v4 1 50
 have f4 := B2 k v4 1 50
 have e2 := Bo k v2 0 65535
 have f2 := F5 k v2
 have key : ∃ b, Xgm k (v0, v1, v2, v3, v4) = some b ∧ F170 k (v0, v1, v2, v3, v4) = some b ∧ (b = true → b0 = true ∧ inB v4 1 50 = true ∧ (@Eq Int v1 0 ∨ @Eq Int v1 1 ∨ @Eq Int v1 2) ∧ (@Eq Int v1 2 → b3 = true)) := by
  unfold Xgm Yf F170 T5; (try dsimp only [S9])
  cases b0 with
  | false => exact ⟨false, (bs s0).trans ((ct rfl).trans rfl), (bs i0).trans ((ct rfl).trans rfl), fun h => by cases h⟩
  | true =>
   cases h4 : inB v4 1 50 with
   | false =>
    rw [h4] at e4 f4
    exact ⟨false, (bs s0).trans ((cf rfl).trans ((bs e4).trans ((ct rfl).trans rfl))), (bs i0).trans ((cf rfl).trans ((bs f4).trans ((ct rfl).trans rfl))), fun h => by cases h⟩
   | true =>
    rw [h4] at e4 f4
    by_cases c1 : @Eq Int v1 1
    ·subst c1
     cases hw : inB v2 0 65535 with
     | false =>
      rw [hw] at e2 f2
      exact ⟨false, (bs s0).trans ((cf rfl).trans ((bs e4).trans ((cf rfl).trans ((ct rfl).trans ((bs e2).trans ((cf rfl).trans rfl)))))), (bs i0).trans ((cf rfl).trans ((bs f4).trans ((cf rfl).trans ((cf rfl).trans ((ct rfl).trans ((bs f2).trans ((cf rfl).trans rfl))))))), fun h => by cases h⟩
     | true =>
      rw [hw] at e2 f2
      exact ⟨_, (bs s0).trans ((cf rfl).trans ((bs e4).trans ((cf rfl).trans ((ct rfl).trans ((bs e2).trans ((ct rfl).trans rfl)))))), (bs i0).trans ((cf rfl).trans ((bs f4).trans ((cf rfl).trans ((cf rfl).trans ((ct rfl).trans ((bs f2).trans ((ct rfl).trans rfl))))))), fun h => ⟨rfl, rfl, .inr (.inl rfl), fun h => absurd h (by decide)⟩⟩
    ·by_cases c2 : @Eq Int v1 2
     ·subst c2
      cases hz : @BEq.beq Int _ v2 0 with
      | false =>
       exact ⟨false, (bs s0).trans ((cf rfl).trans ((bs e4).trans ((cf rfl).trans ((cf rfl).trans ((ct rfl).trans ((cf rfl).trans rfl)))))), (bs i0).trans ((cf rfl).trans ((bs f4).trans ((cf rfl).trans ((cf rfl).trans ((cf rfl).trans ((ct rfl).trans ((cf rfl).trans rfl))))))), fun h => by cases h⟩
      | true =>
       exact ⟨b3, (bs s0).trans ((cf rfl).trans ((bs e4).trans ((cf rfl).trans ((cf rfl).trans ((ct rfl).trans ((ct rfl).trans ((bs s3).trans rfl))))))), (bs i0).trans ((cf rfl).trans ((bs f4).trans ((cf rfl).trans ((cf rfl).trans ((cf rfl).trans ((ct rfl).trans ((ct rfl).trans ((bs i3).trans rfl)))))))), fun h => ⟨rfl, rfl, .inr (.inr rfl), fun _ => h⟩⟩
     ·have g1 : @BEq.beq Int _ v1 1 = false := beq_eq_false_iff_ne.2 c1
      have g2 : @BEq.beq Int _ v1 2 = false := beq_eq_false_iff_ne.2 c2
      by_cases c0 : @Eq Int v1 0
      ·subst c0
       cases hz : @BEq.beq Int _ v2 0 with
       | false =>
        exact ⟨false, (bs s0).trans ((cf rfl).trans ((bs e4).trans ((cf rfl).trans ((cf rfl).trans ((cf rfl).trans ((ct rfl).trans ((cf rfl).trans rfl))))))), (bs i0).trans ((cf rfl).trans ((bs f4).trans ((cf rfl).trans ((ct rfl).trans ((cf rfl).trans rfl))))), fun h => by cases h⟩
       | true =>
        exact ⟨_, (bs s0).trans ((cf rfl).trans ((bs e4).trans ((cf rfl).trans ((cf rfl).trans ((cf rfl).trans ((ct rfl).trans ((ct rfl).trans rfl))))))), (bs i0).trans ((cf rfl).trans ((bs f4).trans ((cf rfl).trans ((ct rfl).trans ((ct rfl).trans rfl))))), fun h => ⟨rfl, rfl, .inl rfl, fun h => absurd h (by decide)⟩⟩
      ·have g0 : @BEq.beq Int _ v1 0 = false := beq_eq_false_iff_ne.2 c0
       exact ⟨false, (bs s0).trans ((cf rfl).trans ((bs e4).trans ((cf rfl).trans ((cf g1).trans ((cf g2).trans ((cf g0).trans rfl)))))), (bs i0).trans ((cf rfl).trans ((bs f4).trans ((cf rfl).trans ((cf g0).trans ((cf g1).trans ((cf g2).trans rfl)))))), fun h => by cases h⟩
 obtain ⟨b, k1, k2, k3⟩ := key
 refine ⟨b, k1, k2, fun h => ?_⟩
 obtain ⟨q0, q1, q2, q3⟩ := k3 h
 rw [h] at k2
 rw [q0] at s0 i0
 exact ⟨k2, ⟨s0, i0⟩, Bf q1, q2, fun h2 => by have := q3 h2; rw [this] at s3 i3; exact ⟨s3, i3⟩⟩
theorem ns_l (k : Nat) (v : nmL) (hl : v.length ≤ 1000) (hz : ∀ n ∈ v, Sz n) (hk : 1048576 < k) : ∀ (n j : Nat), j ≤ v.length → v.length - j < n → ∃ b, Kg k v n (j : Int) = some b ∧ Js k v n (j : Int) = some b ∧ (b = true → ∀ x ∈ v.drop j, NK k x)
 | 0, j, _, h => by omega
 | n + 1, j, hj, h => by
  rw [Kg, Js]
  unfold Km Kp; (try dsimp only [Az])
  rcases Nat.lt_or_ge j v.length with hlt | hge
  ·have d1 : decide ((j : Int) < ((v.length : Nat) : Int)) = true := decide_eq_true (by omega)
   have d0 : decide ((0 : Int) ≤ ((j : Nat) : Int)) = true := decide_eq_true (by omega)
   obtain ⟨b, h1, h2, h3⟩ := ns_l k v hl hz hk n (j + 1) hlt (by omega)
   obtain ⟨c, c1, c2, c3⟩ := X92 k v[j] (hz _ (List.getElem_mem hlt)) hk
   rw [Av v j hlt, F6 j (by omega), List.drop_eq_getElem_cons hlt]
   cases c with
   | false => exact ⟨false, (ct d1).trans ((ct d0).trans ((ct d1).trans ((bs c1).trans ((ct rfl).trans rfl)))), (ct d1).trans ((ct d0).trans ((ct d1).trans ((bs c2).trans ((ct rfl).trans rfl)))), fun h => by cases h⟩
   | true =>
    have O5 : b = true → ∀ x ∈ v[j] :: v.drop (j + 1), NK k x := fun hb x hx => (List.mem_cons.1 hx).elim (fun e => by rw [e]; exact c3 rfl) (h3 hb x)
    cases hk0 : @BEq.beq Int _ v[j].2.1 0 with
    | true => exact ⟨false, (ct d1).trans ((ct d0).trans ((ct d1).trans ((bs c1).trans ((cf rfl).trans ((ct d0).trans ((ct d1).trans ((ct rfl).trans rfl))))))), (ct d1).trans ((ct d0).trans ((ct d1).trans ((bs c2).trans ((cf rfl).trans ((ct rfl).trans rfl))))), fun h => by cases h⟩
    | false =>
     rcases Nat.eq_zero_or_pos j with h0 | h0
     ·have g0 : decide ((j : Int) > 0) = false := decide_eq_false (by omega)
      exact ⟨b, (ct d1).trans ((ct d0).trans ((ct d1).trans ((bs c1).trans ((cf rfl).trans ((ct d0).trans ((ct d1).trans ((cf rfl).trans ((cf g0).trans h1)))))))), (ct d1).trans ((ct d0).trans ((ct d1).trans ((bs c2).trans ((cf rfl).trans ((cf rfl).trans ((cf g0).trans h2)))))), O5⟩
     ·have g0 : decide ((j : Int) > 0) = true := decide_eq_true (by omega)
      have e1 : IntKind.i64.wrap ((j : Int) - 1) = ((j - 1 : Nat) : Int) := by rw [i64_in _ (by omega)]; omega
      have q1 : decide (((j - 1 : Nat) : Int) < ((v.length : Nat) : Int)) = true := decide_eq_true (by omega)
      have q0 : decide ((0 : Int) ≤ ((j - 1 : Nat) : Int)) = true := decide_eq_true (by omega)
      rw [e1, Av v (j - 1) (by omega)]
      cases hc : (!Go.Op.bytesLess (ByteArray.toList v[j - 1].1) (ByteArray.toList v[j].1)) with
      | true => exact ⟨false, (ct d1).trans ((ct d0).trans ((ct d1).trans ((bs c1).trans ((cf rfl).trans ((ct d0).trans ((ct d1).trans ((cf rfl).trans ((ct g0).trans ((ct q0).trans ((ct q1).trans ((ct d0).trans ((ct d1).trans ((ct rfl).trans rfl))))))))))))), (ct d1).trans ((ct d0).trans ((ct d1).trans ((bs c2).trans ((cf rfl).trans ((cf rfl).trans ((ct g0).trans ((ct q0).trans ((ct q1).trans ((ct rfl).trans rfl))))))))), fun h => by cases h⟩
      | false => exact ⟨b, (ct d1).trans ((ct d0).trans ((ct d1).trans ((bs c1).trans ((cf rfl).trans ((ct d0).trans ((ct d1).trans ((cf rfl).trans ((ct g0).trans ((ct q0).trans ((ct q1).trans ((ct d0).trans ((ct d1).trans ((cf rfl).trans h1))))))))))))), (ct d1).trans ((ct d0).trans ((ct d1).trans ((bs c2).trans ((cf rfl).trans ((cf rfl).trans ((ct g0).trans ((ct q0).trans ((ct q1).trans ((cf rfl).trans h2))))))))), O5⟩
  ·have : j = v.length := by omega
   subst this
   rw [List.drop_length]
   have d9 : decide (((v.length : Nat) : Int) < ((v.length : Nat) : Int)) = false := decide_eq_false (by omega)
   exact ⟨_, (cf d9).trans rfl, (cf d9).trans rfl, fun _ x hx => by cases hx⟩
theorem X9s (k : Nat) (v : nmL) (hl : v.length ≤ 1000) (hz : ∀ n ∈ v, Sz n) (hk : 1048576 < k) : ∃ b, Xbd k v = some b ∧ Q3 k v = some b ∧ (b = true → ∀ x ∈ v, NK k x) := by
 obtain ⟨b, h1, h2, h3⟩ := ns_l k v hl hz hk k 0 (Nat.zero_le _) (by omega)
 rw [List.drop_zero] at h3
 exact ⟨b, h1, h2, h3⟩
def Cy (a b : ByteArray) : Bool := a.toList == b.toList
def fnd (s : ByteArray) : nmL → den nam
 | [] => (s, 0, 0, (⟨#[]⟩ : ByteArray), 5)
 | n :: l => cond (Cy n.1 s) n (fnd s l)
theorem X0j (k : Nat) (v : nmL) (wx s : ByteArray) (hl : v.length ≤ 1000) : ∀ (n j : Nat), j ≤ v.length → v.length - j < n → ∃ x : Int, Kz k v wx n (j : Int) s = some (x, s) ∧ ((x = -1 ∧ fnd s (v.drop j) = (s, 0, 0, (⟨#[]⟩ : ByteArray), 5)) ∨ ∃ (r : Nat) (hr : r < v.length), x = (r : Int) ∧ fnd s (v.drop j) = v[r])
 | 0, j, _, h => by omega
 | n + 1, j, hj, h => by
  rw [Kz]
  unfold Kh; (try dsimp only [Az])
  rcases Nat.lt_or_ge j v.length with hlt | hge
  ·have d1 : decide ((j : Int) < ((v.length : Nat) : Int)) = true := decide_eq_true (by omega)
   have d0 : decide ((0 : Int) ≤ ((j : Nat) : Int)) = true := decide_eq_true (by omega)
   obtain ⟨x, h1, h2⟩ := X0j k v wx s hl n (j + 1) hlt (by omega)
   have e : Xuf k v[j] s = some (Cy v[j].1 s, s) := rfl
   rw [Av v j hlt, F6 j (by omega), List.drop_eq_getElem_cons hlt]
   cases hh : Cy v[j].1 s with
   | false =>
    rw [hh] at e
    refine ⟨x, (ct d1).trans ((ct d0).trans ((ct d1).trans ((bs e).trans ((cf rfl).trans h1)))), ?_⟩
    rw [fnd, hh]
    exact h2
   | true =>
    rw [hh] at e
    refine ⟨j, (ct d1).trans ((ct d0).trans ((ct d1).trans ((bs e).trans ((ct rfl).trans rfl)))), .inr ⟨j, hlt, rfl, ?_⟩⟩
    rw [fnd, hh]
    rfl
  ·have : j = v.length := by omega
   subst this
   rw [List.drop_length]
   exact ⟨-1, (cf (decide_eq_false (by omega))).trans rfl, .inl ⟨rfl, rfl⟩⟩
theorem Zk (k : Nat) (v : nmL) (s : ByteArray) (hl : v.length ≤ 1000) (hk : 1048576 < k) : Yl k v s = some (fnd s v) := by
 obtain ⟨x, h1, h2⟩ := X0j k v s s hl k 0 (Nat.zero_le _) (by omega)
 rw [List.drop_zero] at h2
 unfold Yl Ze; (try dsimp only [Az])
 refine (bs (show Xm2 k v s = _ from h1)).trans ?_
 rcases h2 with ⟨rfl, e⟩ | ⟨r, hr, rfl, e⟩
 ·rw [e]
  exact (cf rfl).trans rfl
 ·rw [e]
  refine (ct (decide_eq_true (by show (r : Int) ≥ 0; omega))).trans ((ct (decide_eq_true (by show (0 : Int) ≤ (r : Int); omega))).trans ((ct (decide_eq_true (by show (r : Int) < (v.length : Int); omega))).trans ?_))
  show some (Aw v (r : Int)) = _
  rw [Av v r hr]
theorem Xnh (k : Nat) (v : nmL) (s : ByteArray) (hl : v.length ≤ 1000) : ∀ (n j : Nat), j ≤ v.length → v.length - j < n → Fq k v s n (j : Int) = some (fnd s (v.drop j), true)
 | 0, j, _, h => by omega
 | n + 1, j, hj, h => by
  rcases Nat.lt_or_ge j v.length with hlt | hge
  ·have d1 : decide ((j : Int) < ((v.length : Nat) : Int)) = true := decide_eq_true (by omega)
   have d0 : decide ((0 : Int) ≤ ((j : Nat) : Int)) = true := decide_eq_true (by omega)
   have ih := Xnh k v s hl n (j + 1) hlt (by omega)
   have wk : ∀ (b : Bool), Cy v[j].1 s = b → Fq k v s (n + 1) (j : Int) = some (cond b v[j] (fnd s (v.drop (j + 1))), true) := by
    intro b hb
    rw [Fq]
    unfold Kd; (try dsimp only [Az])
    rw [Av v j hlt, F6 j (by omega)]
    have hb2 : (ByteArray.toList v[j].1 == ByteArray.toList s) = b := hb
    cases b with
    | false => exact (ct d1).trans ((ct d0).trans ((ct d1).trans ((cf hb2).trans ih)))
    | true => exact (ct d1).trans ((ct d0).trans ((ct d1).trans ((ct hb2).trans ((ct d0).trans ((ct d1).trans rfl)))))
   rw [List.drop_eq_getElem_cons hlt, fnd]
   exact wk _ rfl
  ·have : j = v.length := by omega
   subst this
   rw [List.drop_length, Fq]
   exact (cf (decide_eq_false (by omega))).trans rfl
def fl (v : nmL) : Nat → ByteArray → Int × Bool
 | 0, _ => (0, false)
 | c + 1, s => cond (@BEq.beq Int _ (fnd s v).2.1 1) ((fnd s v).2.2.1, true) (cond (@BEq.beq Int _ (fnd s v).2.1 0) (0, false) (fl v c (fnd s v).2.2.2.1))
end Go.Proofs.YtdmepjjepogddaaGreat.Gn
end

section
namespace Go.Proofs.YtdmepjjepogddaaGreat.Gn
open Go.Rf Go.IntWalk
set_option linter.unusedVariables false
set_option linter.unusedSimpArgs false
theorem Xg3 {a b : ByteArray} (h : Cy a b = true) : a = b := by
 unfold Cy at h
 rw [beq_iff_eq, Lib.toList_data, Lib.toList_data] at h
 exact ByteArray.ext (Array.toList_inj.1 h)
theorem Xjz (a : ByteArray) : Cy a a = true := by unfold Cy; simp
theorem Tf (s : ByteArray) : ∀ v : nmL, (fnd s v).1 = s
 | [] => rfl
 | n :: l => by
  rw [fnd]
  rcases Bool.eq_false_or_eq_true (Cy n.1 s) with h | h
  ·rw [h]; exact Xg3 h
  ·rw [h]; exact Tf s l
theorem Q4 (s : ByteArray) : ∀ v : nmL, fnd s v ∈ v ∨ fnd s v = (s, 0, 0, (⟨#[]⟩ : ByteArray), 5)
 | [] => .inr rfl
 | n :: l => by
  rw [fnd]
  rcases Bool.eq_false_or_eq_true (Cy n.1 s) with h | h
  ·rw [h]; exact .inl (List.mem_cons_self ..)
  ·rw [h]
   exact (Q4 s l).elim (fun h => .inl (List.mem_cons_of_mem _ h)) .inr
theorem Xo7 {v : nmL} {c : Nat} {s : ByteArray} (h : @BEq.beq Int _ (fnd s v).2.1 1 = true) : fl v (c + 1) s = ((fnd s v).2.2.1, true) := by rw [fl, h]; rfl
theorem Xo8 {v : nmL} {c : Nat} {s : ByteArray} (h1 : @BEq.beq Int _ (fnd s v).2.1 1 = false) (h0 : @BEq.beq Int _ (fnd s v).2.1 0 = true) : fl v (c + 1) s = (0, false) := by rw [fl, h1, h0]; rfl
theorem Xsm {v : nmL} {c : Nat} {s : ByteArray} (h1 : @BEq.beq Int _ (fnd s v).2.1 1 = false) (h0 : @BEq.beq Int _ (fnd s v).2.1 0 = false) : fl v (c + 1) s = fl v c (fnd s v).2.2.2.1 := by rw [fl, h1, h0]; rfl
theorem Xiy {k : Nat} {v : nmL} {s : ByteArray} (hn : ∀ x ∈ v, NK k x) (h1 : @BEq.beq Int _ (fnd s v).2.1 1 = false) (h0 : @BEq.beq Int _ (fnd s v).2.1 0 = false) : F174 k (fnd s v).2.2.2.1 = some true ∧ F105 k (fnd s v).2.2.2.1 = some true := by
 rcases Q4 s v with h | h
 ·rcases (hn _ h).kd with e | e | e
  ·rw [e] at h0; cases h0
  ·rw [e] at h1; cases h1
  ·exact (hn _ h).al e
 ·rw [h] at h0; cases h0
theorem Xa4 (k : Nat) (v : nmL) (v0 : ByteArray) (wx : nmL) (hl : v.length ≤ 1000) (hk : 1048576 < k) : ∀ (n c j : Nat) (s : ByteArray), j + c = 5 → c < n → Hd k v0 wx n s (j : Int) v = some ((fl v c s).1, (fl v c s).2, v)
 | 0, c, j, s, _, h => by omega
 | n + 1, 0, j, s, hj, h => by
  rw [Hd]
  exact (cf (decide_eq_false (by omega))).trans rfl
 | n + 1, c + 1, j, s, hj, h => by
  have ih := Xa4 k v v0 wx hl hk n c (j + 1) (fnd s v).2.2.2.1 (by omega) (by omega)
  have e : Xj4 k s v = some (fnd s v, v) := by
   unfold Xj4; (try dsimp only)
   rw [Zk k v s hl hk]; rfl
  rw [Hd]
  unfold Jo; (try dsimp only)
  rw [F6 j (by omega)]
  refine (ct (decide_eq_true (by omega))).trans ((bs e).trans ?_)
  rcases Bool.eq_false_or_eq_true (@BEq.beq Int _ (fnd s v).2.1 1) with h1 | h1
  ·rw [Xo7 h1]; exact (ct h1).trans rfl
  ·refine (cf h1).trans ?_
   rcases Bool.eq_false_or_eq_true (@BEq.beq Int _ (fnd s v).2.1 0) with h0 | h0
   ·rw [Xo8 h1 h0]; exact (ct h0).trans rfl
   ·rw [Xsm h1 h0]; exact (cf h0).trans ih
theorem Xtw (k : Nat) (v : nmL) (w : ByteArray) (hl : v.length ≤ 1000) (hk : 1048576 < k) (hv : Xbd k v = some true) (hn : ∀ x ∈ v, NK k x) : ∀ (n c j : Nat) (s : ByteArray), j + c = 5 → c < n → F174 k s = some true → Hk k v w n s (j : Int) = some (fl v c s)
 | 0, c, j, s, _, h, _ => by omega
 | n + 1, 0, j, s, hj, h, _ => by
  rw [Hk]
  exact (cf (decide_eq_false (by omega))).trans rfl
 | n + 1, c + 1, j, s, hj, h, hs => by
  have e : Xbx k v s = some (fnd s v, true) := by
   have := Xnh k v s hl k 0 (Nat.zero_le _) (by omega)
   rw [List.drop_zero] at this
   unfold Xbx Tb; (try dsimp only)
   exact (bs hv).trans ((cf rfl).trans ((bs hs).trans ((cf rfl).trans this)))
  rw [Hk]
  unfold Mq; (try dsimp only)
  rw [F6 j (by omega)]
  refine (ct (decide_eq_true (by omega))).trans ((bs e).trans ((cf rfl).trans ?_))
  rcases Bool.eq_false_or_eq_true (@BEq.beq Int _ (fnd s v).2.1 0) with h0 | h0
  ·have h1 : @BEq.beq Int _ (fnd s v).2.1 1 = false := by
    have : @Eq Int (fnd s v).2.1 0 := eq_of_beq h0
    rw [this]; rfl
   rw [Xo8 h1 h0]; exact (ct h0).trans rfl
  ·refine (cf h0).trans ?_
   rcases Bool.eq_false_or_eq_true (@BEq.beq Int _ (fnd s v).2.1 1) with h1 | h1
   ·rw [Xo7 h1]; exact (ct h1).trans rfl
   ·rw [Xsm h1 h0]; exact (cf h1).trans (Xtw k v w hl hk hv hn n c (j + 1) _ (by omega) (by omega) (Xiy hn h1 h0).1)
theorem Xqg (k : Nat) (v : nmL) (s : ByteArray) (hl : v.length ≤ 1000) (hk : 1048576 < k) (hv : Xbd k v = some true) (hv2 : Q3 k v = some true) (hn : ∀ x ∈ v, NK k x) (hs : F174 k s = some true) (hs2 : F105 k s = some true) : F44 k v s = some (fl v 5 s) ∧ F45 k v s = some (fl v 5 s) := by
 constructor
 ·have h := Xa4 k v s v hl hk k 5 0 s (by omega) (by omega)
  unfold F44 Z5; (try dsimp only)
  exact (bs hv2).trans ((cf rfl).trans ((bs hs2).trans ((cf rfl).trans ((bs (show Xn5 k s v = _ from h)).trans rfl))))
 ·exact Xtw k v s hl hk hv hn k 5 0 s (by omega) (by omega) hs
theorem Xvk (k : Nat) (v : nmL) (s : ByteArray) {b c : Bool} (hk : 1048576 < k) (hv : Xbd k v = some b) (hv2 : Q3 k v = some b) (hs : F174 k s = some c) (hs2 : F105 k s = some c) (hbc : (b && c) = false) : F44 k v s = some (0, false) ∧ F45 k v s = some (0, false) := by
 obtain ⟨n, rfl⟩ : ∃ n, k = n + 1 := ⟨k - 1, by omega⟩
 have e : ∃ m, Xbx (n + 1) v s = some (m, false) := by
  unfold Xbx Tb; (try dsimp only)
  cases b with
  | false => exact ⟨_, (bs hv).trans ((ct rfl).trans rfl)⟩
  | true =>
   cases c with
   | false => exact ⟨_, (bs hv).trans ((cf rfl).trans ((bs hs).trans ((ct rfl).trans rfl)))⟩
   | true => cases hbc
 obtain ⟨m, e⟩ := e
 constructor
 ·unfold F44 Z5; (try dsimp only)
  cases b with
  | false => exact (bs hv2).trans ((ct rfl).trans rfl)
  | true =>
   cases c with
   | false => exact (bs hv2).trans ((cf rfl).trans ((bs hs2).trans ((ct rfl).trans rfl)))
   | true => cases hbc
 ·show Hk (n + 1) v s (n + 1) s 0 = _
  rw [Hk]
  exact (ct (decide_eq_true (by omega))).trans ((bs e).trans ((ct rfl).trans rfl))
abbrev kpL : Type := List (den kep)
structure KE (k : Nat) (v : nmL) (e : den kep) : Prop where
 ok : F170 k e.1 = some true
 eq : e.1 = fnd e.1.1 v
 tm : @LT.lt Int _ 3 e.2 ∧ @LE.le Int _ e.2 53
structure KS (k : Nat) (v : nmL) (ks : kpL) : Prop where
 ne : 0 < ks.length
 len : ks.length ≤ 5
 all : ∀ e ∈ ks, KE k v e
 dis : ks.Pairwise fun a b => a.1.1 ≠ b.1.1
theorem at_l (k : Nat) (ks : kpL) (wx s : ByteArray) (hl : ks.length ≤ 1000) : ∀ (n j : Nat), j ≤ ks.length → ks.length - j < n → ∃ x : Int, Es k ks wx n (j : Int) s = some (x, s) ∧ ((x = -1 ∧ ∀ e ∈ ks.drop j, e.1.1 ≠ s) ∨ ∃ (r : Nat) (hr : r < ks.length), x = (r : Int) ∧ ks[r].1.1 = s)
 | 0, j, _, h => by omega
 | n + 1, j, hj, h => by
  rw [Es]
  unfold Fg; (try dsimp only [Az])
  rcases Nat.lt_or_ge j ks.length with hlt | hge
  ·have d1 : decide ((j : Int) < ((ks.length : Nat) : Int)) = true := decide_eq_true (by omega)
   have d0 : decide ((0 : Int) ≤ ((j : Nat) : Int)) = true := decide_eq_true (by omega)
   obtain ⟨x, h1, h2⟩ := at_l k ks wx s hl n (j + 1) hlt (by omega)
   have e : Xtr k ks[j] s = some (Cy ks[j].1.1 s, s) := rfl
   rw [Av ks j hlt, F6 j (by omega), List.drop_eq_getElem_cons hlt]
   rcases Bool.eq_false_or_eq_true (Cy ks[j].1.1 s) with hh | hh
   ·exact ⟨j, (ct d1).trans ((ct d0).trans ((ct d1).trans ((bs e).trans ((ct hh).trans rfl)))), .inr ⟨j, hlt, rfl, Xg3 hh⟩⟩
   ·refine ⟨x, (ct d1).trans ((ct d0).trans ((ct d1).trans ((bs e).trans ((cf hh).trans h1)))), ?_⟩
    rcases h2 with ⟨h3, h4⟩ | h3
    ·refine .inl ⟨h3, fun e he => ?_⟩
     rcases List.mem_cons.1 he with rfl | he
     ·intro h; rw [h, Xjz] at hh; cases hh
     ·exact h4 e he
    ·exact .inr h3
  ·have : j = ks.length := by omega
   subst this
   rw [List.drop_length]
   exact ⟨-1, (cf (decide_eq_false (by omega))).trans rfl, .inl ⟨rfl, fun e he => by cases he⟩⟩
theorem Xz9 (k : Nat) (ks : kpL) (s : ByteArray) (hl : ks.length ≤ 1000) (hk : 1048576 < k) : ∃ x : Int, Lz k ks s = some x ∧ ((x = -1 ∧ ∀ e ∈ ks, e.1.1 ≠ s) ∨ ∃ (r : Nat) (hr : r < ks.length), x = (r : Int) ∧ ks[r].1.1 = s) := by
 obtain ⟨x, h1, h2⟩ := at_l k ks s s hl k 0 (Nat.zero_le _) (by omega)
 rw [List.drop_zero] at h2
 refine ⟨x, ?_, h2⟩
 unfold Lz; (try dsimp only)
 exact (bs (show Pk k ks s = _ from h1)).trans rfl
theorem X0k (k : Nat) (v : nmL) (ks : kpL) (K : KS k v ks) (hk : 1048576 < k) : ∀ (n j : Nat), j ≤ ks.length → ks.length - j < n → C5 k ks n (j : Int) = some true
 | 0, j, _, h => by omega
 | n + 1, j, hj, h => by
  have hl := K.len
  rw [C5]
  unfold Fl; (try dsimp only [Az])
  rcases Nat.lt_or_ge j ks.length with hlt | hge
  ·have d1 : decide ((j : Int) < ((ks.length : Nat) : Int)) = true := decide_eq_true (by omega)
   have d0 : decide ((0 : Int) ≤ ((j : Nat) : Int)) = true := decide_eq_true (by omega)
   have d2 : decide ((j : Int) ≤ ((ks.length : Nat) : Int)) = true := decide_eq_true (by omega)
   have E := K.all _ (List.getElem_mem hlt)
   have i1 := B2 k ks[j].2 0 1000000
   rw [B0 (by have := E.tm; omega)] at i1
   have hp := K.dis
   rw [← List.take_append_drop j ks, List.drop_eq_getElem_cons hlt, List.pairwise_append] at hp
   obtain ⟨x, x1, x2⟩ := Xz9 k (ks.take j) ks[j].1.1 (by rw [List.length_take]; omega) hk
   have xm : x = -1 := by
    rcases x2 with ⟨h, _⟩ | ⟨r, hr, _, h⟩
    ·exact h
    ·exact absurd h (hp.2.2 _ (List.getElem_mem hr) _ (List.mem_cons_self ..))
   subst xm
   rw [Av ks j hlt, F6 j (by omega)]
   refine (ct d1).trans ((ct d0).trans ((ct d1).trans ((bs E.ok).trans ((cf rfl).trans ((bs i1).trans ((cf rfl).trans ((ct (by rw [d0, d2]; rfl)).trans ((bs x1).trans ((cf rfl).trans ?_)))))))))
   exact X0k k v ks K hk n (j + 1) hlt (by omega)
  ·have : j = ks.length := by omega
   subst this
   exact (cf (decide_eq_false (by omega))).trans (by show some (decide ((ks.length : Int) ≤ 5)) = _; rw [decide_eq_true (by omega)])
theorem Xhv (k : Nat) (ks : kpL) (hl : ks.length ≤ 1000) : G5 k ks = some ks := by
 unfold G5 Mj Xmr Z3; (try dsimp only [Bi])
 cases ks with
 | nil => rfl
 | cons a l =>
  have hl : l.length + 1 ≤ 1000 := hl
  refine (cf (beq_eq_false_iff_ne.2 (by show ((l.length + 1 : Nat) : Int) ≠ 0; omega))).trans ((ct (decide_eq_true (by show (0 + (l.length + 1)) * 64 ≤ 140737488355328; omega))).trans ?_)
  rw [List.nil_append]
  have d : (decide ((0 : Int) ≤ (((a :: l).length : Nat) : Int)) && decide ((((a :: l).length : Nat) : Int) ≤ (((a :: l).length : Nat) : Int))) = true := by
   rw [decide_eq_true (by omega), decide_eq_true (by omega)]; rfl
  refine (bs ((ct d).trans ((ct (decide_eq_true rfl)).trans rfl))).trans ?_
  show some (((a :: l).take (((a :: l).length : Int).toNat)).drop 0) = _
  rw [Int.toNat_natCast, List.take_length, List.drop_zero]
theorem Xxp (k : Nat) (s : ByteArray) (hs : F105 k s = some true) : F170 k (s, 0, 0, (⟨#[]⟩ : ByteArray), 5) = some true := by
 unfold F170 T5; (try dsimp only [S9])
 have f4 := B2 k 5 1 50
 exact (bs hs).trans ((cf rfl).trans ((bs f4).trans ((cf rfl).trans ((ct rfl).trans ((ct rfl).trans (congrArg some (beq_self_eq_true _)))))))
theorem Xl1 (k : Nat) (v : nmL) (s : ByteArray) (hn : ∀ x ∈ v, NK k x) (hs : F105 k s = some true) : KE k v (fnd s v, IntKind.i64.wrap (3 + (fnd s v).2.2.2.2)) := by
 have tm : @LE.le Int _ 1 (fnd s v).2.2.2.2 ∧ @LE.le Int _ (fnd s v).2.2.2.2 50 := by
  rcases Q4 s v with h | h
  ·exact (hn _ h).tm
  ·rw [h]; show (1 : Int) ≤ 5 ∧ (5 : Int) ≤ 50; decide
 refine ⟨?_, ?_, ?_⟩
 ·rcases Q4 s v with h | h
  ·exact (hn _ h).ok
  ·show F170 k (fnd s v) = _
   rw [h]; exact Xxp k s hs
 ·show fnd s v = fnd (fnd s v).1 v
  rw [Tf]
 ·show @LT.lt Int _ 3 (IntKind.i64.wrap (3 + (fnd s v).2.2.2.2)) ∧ @LE.le Int _ (IntKind.i64.wrap (3 + (fnd s v).2.2.2.2)) 53
  rw [i64_in _ (by omega)]
  omega
theorem Xpi {k : Nat} {v : nmL} {ks : kpL} {e : den kep} (hl : ks.length ≤ 5) (ha : ∀ e ∈ ks, KE k v e) (hd : ks.Pairwise fun a b => a.1.1 ≠ b.1.1) (he : KE k v e) (hx : ∀ a ∈ ks, a.1.1 ≠ e.1.1) : KS k v (((ks ++ [e]).take (ks ++ [e]).length).drop ((ks ++ [e]).length - 5)) := by
 rw [List.take_length]
 have hL : (ks ++ [e]).length = ks.length + 1 := by rw [List.length_append]; rfl
 refine ⟨?_, ?_, fun a h => ?_, ?_⟩
 ·rw [List.length_drop]; omega
 ·rw [List.length_drop]; omega
 ·rcases List.mem_append.1 (List.mem_of_mem_drop h) with h | h
  ·exact ha a h
  ·obtain rfl := List.mem_singleton.1 h; exact he
 ·refine List.Pairwise.sublist (List.drop_sublist _ _) (List.pairwise_append.2 ⟨hd, List.pairwise_singleton .., fun a h b h2 => ?_⟩)
  obtain rfl := List.mem_singleton.1 h2
  exact hx a h
theorem Xry (n : Nat) (hn : n ≤ 1000) : (if 0 < IntKind.i64.wrap ((n : Int) - 5) then IntKind.i64.wrap ((n : Int) - 5) else 0) = ((n - 5 : Nat) : Int) := by
 rw [i64_in _ (by omega)]
 split <;> omega
theorem Xqu (k : Nat) (v : nmL) (ks : kpL) (s : ByteArray) (K : KS k v ks) (hl : v.length ≤ 1000) (hn : ∀ x ∈ v, NK k x) (hs : F105 k s = some true) (hk : 1048576 < k) : ∃ (r : kpL) (b : Bool), L6 k ks v s 3 = some (r, fnd s v, b) ∧ KS k v r := by
 have kl := K.len
 have kn := K.ne
 obtain ⟨x, x1, x2⟩ := Xz9 k ks s (by omega) hk
 have c1 := Xhv k ks (by omega)
 have a1 := Zk k v s hl hk
 unfold L6 Mu K6 K0; (try dsimp only [Az, Bi])
 rcases x2 with ⟨rfl, h⟩ | ⟨r, hr, rfl, h⟩
 ·have E := Xl1 k v s hn hs
  have e2 : Pl k ks = some ks := by
   unfold Pl M8; (try dsimp only [Bi])
   exact (cf (decide_eq_false (by omega))).trans ((ct (decide_eq_true (by show (0 + ks.length) * 64 ≤ 140737488355328; omega))).trans rfl)
  have hL : (ks ++ [(fnd s v, IntKind.i64.wrap (3 + (fnd s v).2.2.2.2))]).length = ks.length + 1 := by rw [List.length_append]; rfl
  have lo := Xry (ks ++ [(fnd s v, IntKind.i64.wrap (3 + (fnd s v).2.2.2.2))]).length (by omega)
  refine ⟨_, _, (bs x1).trans ((cf rfl).trans ((bs a1).trans ((bs e2).trans ((cf rfl).trans ((ct (decide_eq_true (by show (ks.length + 1) * 64 ≤ 140737488355328; omega))).trans ((ct ?_).trans ((bs ?_).trans rfl))))))), Xpi kl K.all K.dis E fun a ha => ?_⟩
  ·rw [lo]
   rw [decide_eq_true (by omega), decide_eq_true (by omega)]; rfl
  ·rw [lo, Int.toNat_natCast, Int.toNat_natCast]
   exact Xhv k _ (by rw [List.length_drop, List.length_take]; omega)
  ·show a.1.1 ≠ (fnd s v).1
   rw [Tf]
   exact h a ha
 ·have E := K.all _ (List.getElem_mem hr)
  have e1 : ks[r].1 = fnd s v := by rw [E.eq, h]
  have d1 : decide ((r : Int) < ((ks.length : Nat) : Int)) = true := decide_eq_true (by omega)
  have d0 : decide ((0 : Int) ≤ ((r : Nat) : Int)) = true := decide_eq_true (by omega)
  have tm := E.tm
  have at1 := Av ks r hr
  refine ⟨ks, true, (bs x1).trans ((ct (decide_eq_true (by omega))).trans ((ct d0).trans ((ct d1).trans ((ct (decide_eq_true (by show @LT.lt Int _ 3 (Aw ks (r : Int)).2; rw [at1]; exact tm.1))).trans ((bs c1).trans ((ct d0).trans ((ct d1).trans ?_))))))), K⟩
  show some (ks, (Aw ks (r : Int)).1, true) = _
  rw [at1, e1]
theorem X3r (k : Nat) (v : nmL) (s : ByteArray) (hl : v.length ≤ 1000) (hn : ∀ x ∈ v, NK k x) (hs : F105 k s = some true) (hk : 1048576 < k) : ∃ (r : kpL) (b : Bool), Xdx k [] v s 3 = some (r, fnd s v, b) ∧ KS k v r := by
 have a1 := Zk k v s hl hk
 have x1 : Xp1 k [] s = some (-1) := by
  obtain ⟨n, rfl⟩ : ∃ n, k = n + 1 := ⟨k - 1, by omega⟩
  rfl
 unfold Xdx Wy Rm; (try dsimp only [Bi])
 have E := Xl1 k v s hn hs
 have e2 : Xnz k [] = some [] := rfl
 have lo := Xry (([] : kpL) ++ [(fnd s v, IntKind.i64.wrap (3 + (fnd s v).2.2.2.2))]).length (by simp)
 refine ⟨_, _, (bs x1).trans ((cf rfl).trans ((bs a1).trans ((bs e2).trans ((cf rfl).trans ((ct (decide_eq_true (by show (0 + 1) * 64 ≤ 140737488355328; omega))).trans ((ct ?_).trans ((bs ?_).trans rfl))))))), Xpi (ks := []) (by simp) (fun a h => by cases h) List.Pairwise.nil E fun a ha => by cases ha⟩
 ·rw [lo]
  rw [decide_eq_true (by omega), decide_eq_true (by omega)]; rfl
 ·rw [lo, Int.toNat_natCast, Int.toNat_natCast]
  exact Xhv k _ (by rw [List.length_drop]; simp)
theorem kw_a (k : Nat) (v : nmL) (v0 : ByteArray) (wx : kpL) (wy : nmL) (wz : Int) (hl : v.length ≤ 1000) (hn : ∀ x ∈ v, NK k x) (hk : 1048576 < k) : ∀ (n c j : Nat) (s : ByteArray) (ks : kpL), j + c = 5 → c < n → KS k v ks → F105 k s = some true → ∃ r : kpL, C2 k v0 wx wy wz n s (j : Int) ks v 3 = some ((fl v c s).1, (fl v c s).2, r, v, 3) ∧ KS k v r
 | 0, c, j, s, ks, _, h, _, _ => by omega
 | n + 1, 0, j, s, ks, hj, h, K, _ => by
  rw [C2]
  exact ⟨ks, (cf (decide_eq_false (by omega))).trans rfl, K⟩
 | n + 1, c + 1, j, s, ks, hj, h, K, hs => by
  obtain ⟨r, b, e0, K2⟩ := Xqu k v ks s K hl hn hs hk
  have e : Hn k s ks v 3 = some (fnd s v, r, v, 3) := by
   unfold Hn; (try dsimp only)
   rw [e0]; rfl
  rw [C2]
  unfold Ei; (try dsimp only)
  rw [F6 j (by omega)]
  rcases Bool.eq_false_or_eq_true (@BEq.beq Int _ (fnd s v).2.1 1) with h1 | h1
  ·rw [Xo7 h1]; exact ⟨r, (ct (decide_eq_true (by omega))).trans ((bs e).trans ((ct h1).trans rfl)), K2⟩
  ·rcases Bool.eq_false_or_eq_true (@BEq.beq Int _ (fnd s v).2.1 0) with h0 | h0
   ·rw [Xo8 h1 h0]; exact ⟨r, (ct (decide_eq_true (by omega))).trans ((bs e).trans ((cf h1).trans ((ct h0).trans rfl))), K2⟩
   ·obtain ⟨r3, i1, i2⟩ := kw_a k v v0 wx wy wz hl hn hk n c (j + 1) _ r (by omega) (by omega) K2 (Xiy hn h1 h0).2
    rw [Xsm h1 h0]; exact ⟨r3, (ct (decide_eq_true (by omega))).trans ((bs e).trans ((cf h1).trans ((cf h0).trans i1))), i2⟩
theorem kw_b (k : Nat) (v : nmL) (v0 : ByteArray) (wx : kpL) (wy : nmL) (wz : Int) (hl : v.length ≤ 1000) (hn : ∀ x ∈ v, NK k x) (hk : 1048576 < k) : ∀ (n c j : Nat) (s : ByteArray) (ks : kpL), j + c = 5 → c < n → KS k v ks → F105 k s = some true → ∃ r : kpL, Dt k v0 wx wy wz n s (j : Int) ks v 3 = some ((fl v c s).1, (fl v c s).2, r, v, 3) ∧ KS k v r
 | 0, c, j, s, ks, _, h, _, _ => by omega
 | n + 1, 0, j, s, ks, hj, h, K, _ => by
  rw [Dt]
  exact ⟨ks, (cf (decide_eq_false (by omega))).trans rfl, K⟩
 | n + 1, c + 1, j, s, ks, hj, h, K, hs => by
  obtain ⟨r, b, e0, K2⟩ := Xqu k v ks s K hl hn hs hk
  have e : Hn k s ks v 3 = some (fnd s v, r, v, 3) := by
   unfold Hn; (try dsimp only)
   rw [e0]; rfl
  rw [Dt]
  unfold Fo; (try dsimp only)
  rw [F6 j (by omega)]
  rcases Bool.eq_false_or_eq_true (@BEq.beq Int _ (fnd s v).2.1 1) with h1 | h1
  ·rw [Xo7 h1]; exact ⟨r, (ct (decide_eq_true (by omega))).trans ((bs e).trans ((ct h1).trans rfl)), K2⟩
  ·rcases Bool.eq_false_or_eq_true (@BEq.beq Int _ (fnd s v).2.1 0) with h0 | h0
   ·rw [Xo8 h1 h0]; exact ⟨r, (ct (decide_eq_true (by omega))).trans ((bs e).trans ((cf h1).trans ((ct h0).trans rfl))), K2⟩
   ·obtain ⟨r3, i1, i2⟩ := kw_b k v v0 wx wy wz hl hn hk n c (j + 1) _ r (by omega) (by omega) K2 (Xiy hn h1 h0).2
    rw [Xsm h1 h0]; exact ⟨r3, (ct (decide_eq_true (by omega))).trans ((bs e).trans ((cf h1).trans ((cf h0).trans i1))), i2⟩
theorem X29 (k : Nat) (v : nmL) (s : ByteArray) (hl : v.length ≤ 1000) (hk : 1048576 < k) (hv2 : Q3 k v = some true) (hn : ∀ x ∈ v, NK k x) (hs2 : F105 k s = some true) : ∃ r : kpL, F46 k [] v s 3 = some (r, (fl v 5 s).1, (fl v 5 s).2) ∧ KS k v r := by
 have i1 := B2 k 3 0 900000
 have ok : Xbk k [] v s 3 = some true := by
  have e0 : Xki k [] = some true := by
   obtain ⟨n, rfl⟩ : ∃ n, k = n + 1 := ⟨k - 1, by omega⟩
   rfl
  unfold Xbk Ry; (try dsimp only)
  exact (bs e0).trans ((ct rfl).trans ((bs hv2).trans ((ct rfl).trans ((bs hs2).trans ((ct rfl).trans ((bs i1).trans rfl))))))
 have w : ∃ r : kpL, P0 k s [] v 3 = some ((fl v 5 s).1, (fl v 5 s).2, r, v, 3) ∧ KS k v r := by
  obtain ⟨r, b, e0, K2⟩ := X3r k v s hl hn hs2 hk
  have e : Xc7 k s [] v 3 = some (fnd s v, r, v, 3) := by
   unfold Xc7; (try dsimp only)
   rw [e0]; rfl
  obtain ⟨n, hn2⟩ : ∃ n, k = n + 1 := ⟨k - 1, by omega⟩
  have Ib : P0 k s [] v 3 = G2 k s [] v 3 (n + 1) := by rw [← hn2]; rfl
  rw [Ib, G2]
  rcases Bool.eq_false_or_eq_true (@BEq.beq Int _ (fnd s v).2.1 1) with h1 | h1
  ·rw [Xo7 h1]; exact ⟨r, (bs e).trans ((ct h1).trans rfl), K2⟩
  ·rcases Bool.eq_false_or_eq_true (@BEq.beq Int _ (fnd s v).2.1 0) with h0 | h0
   ·rw [Xo8 h1 h0]; exact ⟨r, (bs e).trans ((cf h1).trans ((ct h0).trans rfl)), K2⟩
   ·obtain ⟨r3, i1, i2⟩ := kw_a k v s [] v 3 hl hn hk n 4 1 _ r (by omega) (by omega) K2 (Xiy hn h1 h0).2
    rw [Xsm h1 h0]; exact ⟨r3, (bs e).trans ((cf h1).trans ((cf h0).trans i1)), i2⟩
 obtain ⟨r, w1, w2⟩ := w
 refine ⟨r, ?_, w2⟩
 unfold F46 Xce; (try dsimp only)
 exact (bs ok).trans ((cf rfl).trans ((bs (show Xrh k [] = some [] from rfl)).trans ((bs w1).trans rfl)))
theorem X1p (k : Nat) (v : nmL) (ks : kpL) (s : ByteArray) (K : KS k v ks) (hl : v.length ≤ 1000) (hk : 1048576 < k) (hv2 : Q3 k v = some true) (hn : ∀ x ∈ v, NK k x) (hs2 : F105 k s = some true) : ∃ r : kpL, Qo k ks v s 3 = some (r, (fl v 5 s).1, (fl v 5 s).2) := by
 have i1 := B2 k 3 0 900000
 have kl := K.len
 have ok : I6 k ks v s 3 = some true := by
  have e0 : Oi k ks = some true := X0k k v ks K hk k 0 (Nat.zero_le _) (by omega)
  unfold I6 Ig; (try dsimp only)
  exact (bs e0).trans ((ct rfl).trans ((bs hv2).trans ((ct rfl).trans ((bs hs2).trans ((ct rfl).trans ((bs i1).trans rfl))))))
 obtain ⟨r, w1, w2⟩ := kw_b k v s ks v 3 hl hn hk k 5 0 s ks (by omega) (by omega) K hs2
 refine ⟨r, ?_⟩
 unfold Qo Nw; (try dsimp only)
 exact (bs ok).trans ((cf rfl).trans ((bs (Xhv k ks (by omega))).trans ((bs (show Ru k s ks v 3 = _ from w1)).trans rfl)))
theorem Xvy (k : Nat) (v : nmL) (s : ByteArray) {b c : Bool} (hk : 1048576 < k) (hv2 : Q3 k v = some b) (hs2 : F105 k s = some c) (hbc : (b && c) = false) : F46 k [] v s 3 = some ([], 0, false) ∧ Qo k [] v s 3 = some ([], 0, false) := by
 obtain ⟨n, rfl⟩ : ∃ n, k = n + 1 := ⟨k - 1, by omega⟩
 have e0 : Xki (n + 1) [] = some true := rfl
 have e2 : Oi (n + 1) [] = some true := by
  show C5 (n + 1) [] (n + 1) 0 = _
  rw [C5]
  exact (cf rfl).trans rfl
 have ok : Xbk (n + 1) [] v s 3 = some false ∧ I6 (n + 1) [] v s 3 = some false := by
  unfold Xbk Ry I6 Ig; (try dsimp only)
  cases b with
  | false => exact ⟨(bs e0).trans ((ct rfl).trans ((bs hv2).trans ((cf rfl).trans rfl))), (bs e2).trans ((ct rfl).trans ((bs hv2).trans ((cf rfl).trans rfl)))⟩
  | true =>
   cases c with
   | false => exact ⟨(bs e0).trans ((ct rfl).trans ((bs hv2).trans ((ct rfl).trans ((bs hs2).trans ((cf rfl).trans rfl))))), (bs e2).trans ((ct rfl).trans ((bs hv2).trans ((ct rfl).trans ((bs hs2).trans ((cf rfl).trans rfl)))))⟩
   | true => cases hbc
 unfold F46 Xce Qo Nw; (try dsimp only)
 exact ⟨(bs ok.1).trans ((ct rfl).trans rfl), (bs ok.2).trans ((ct rfl).trans rfl)⟩
end Go.Proofs.YtdmepjjepogddaaGreat.Gn
end

section
namespace Go.Proofs.YtdmepjjepogddaaGreat.Gn
open Go.Rf Go.IntWalk
set_option linter.unusedVariables false
set_option linter.unusedSimpArgs false
theorem W5 (k : Nat) (v : A1 × Int) (w : Int) : ∀ (n : Nat) (c : Int) (z : A1 × Int) (m : A1) (r : A1 × (A1 × Int)), BOk m → E4 k v w n c z m = some r → BOk r.1
 | 0, _, _, _, _, _, h => by rw [E4] at h; cases h
 | n + 1, c, z, m, r, hm, h => by
  rw [E4] at h
  unfold G0 at h; (try dsimp only [Bi])
  cases hc : decide (c > 0) with
  | false =>
   rw [hc, cond_false, Option.some.injEq] at h
   rw [← h]
   exact hm
  | true =>
   rw [hc, cond_true] at h
   cases h1 : Gf k z 3 with
   | none => rw [h1] at h; cases h
   | some b1 =>
    rw [h1, Option.bind_some] at h
    have app : ∀ x : Int, BOk (m ++ [IntKind.u8.wrap x]) := fun x => hm.app (BOk.nil.cons (v := x))
    cases hb : (b1.1 == (0 : Int)) with
    | true =>
     rw [show (b1.1 == 0) = true from hb, cond_true] at h
     cases h2 : Gf k b1.2 256 with
     | none => rw [h2] at h; cases h
     | some b2 =>
      rw [h2, Option.bind_some] at h
      exact W5 k v w n _ _ _ r (app _) (M6 h).2
    | false =>
     rw [show (b1.1 == 0) = false from hb, cond_false] at h
     cases h2 : Gf k b1.2 3 with
     | none => rw [h2] at h; cases h
     | some b2 =>
      rw [h2, Option.bind_some] at h
      exact W5 k v w n _ _ _ r (app _) (M6 h).2
theorem btb {β : Type} (k : Nat) (hk : 100 < k) {b : A1} (hb : BOk b) (hl : b.length ≤ 2000) {p n : Int} (hp : 0 ≤ p) (hp2 : p < 999000) (hn : 0 ≤ n ∧ n ≤ 100) {f : A1 × A1 × Int → Option β} {Q : β → Prop}
  (h : ∀ x : A1, (x.length : Int) = n → BOk x → Sm (f (x, b, p + 2 * n)) Q) : Sm ((F72 k (b, p) n).bind f) Q := by
 obtain ⟨c, rfl⟩ := Int.eq_ofNat_of_zero_le hn.1
 obtain ⟨⟨x, y⟩, e, e1, e2⟩ := Xhh k b p (c : Int) hb hl k c p [] (by omega) (by omega) (by omega) (by omega) (by simp; omega)
 have bo := W5 k (b, p) (c : Int) k (c : Int) (b, p) [] (x, y) BOk.nil e
 dsimp only at e1 e2 bo
 subst e2
 rw [show F72 k (b, p) (c : Int) = some (x, (b, p + 2 * (c : Int))) from e]
 exact h x (by rw [e1]; simp) bo
theorem Xvf (k : Nat) (hk : 100 ≤ k) : F24 k = some true := by
 obtain ⟨n, rfl⟩ : ∃ n, k = n + 2 := ⟨k - 2, by omega⟩
 unfold F24 Xix F73 Xin; (try dsimp only)
 have h1 : inB 1 1 4 = true := by decide
 have h2 : inB 5 0 (IntKind.i64.wrap ((IntKind.i64.wrap (1 * 2 ^ (min (IntKind.i64.wrap (8 * 1)).toNat 64))) - 1)) = true := by decide
 have h3 : inB 256 0 (IntKind.i64.wrap ((IntKind.i64.wrap (1 * 2 ^ (min (IntKind.i64.wrap (8 * 1)).toNat 64))) - 1)) = false := by decide
 simp only [B2, Option.bind_some, h1, h2, h3]
 rfl
def Tz (s : ByteArray) : Prop := s.size ≤ 13
theorem Xox {l : List (den .str)} (h : ∀ s ∈ l, Tz s) {i : Int} (h0 : 0 ≤ i) (h1 : i < (l.length : Nat)) : Tz (Aw (t := .str) l i) := h _ (Nb h0 h1)
theorem txk {β : Type} (k : Nat) {b : A1} (hb : BOk b) (hl : b.length ≤ 2000) {p : Int} (hp : 0 ≤ p) (hp2 : p < 1000000) {f : ByteArray × A1 × Int → Option β} {Q : β → Prop}
  (h : ∀ s : ByteArray, Tz s → Sm (f (s, b, p + 1)) Q) : Sm ((Xai k (b, p)).bind f) Q := by
 refine Sm.bind (P := fun r => Tz r.1 ∧ r.2 = (b, p + 1)) ?_ (fun r hr => ?_)
 ·unfold Xai Xw; (try dsimp only [Az])
  refine pk k hb hl hp hp2 (by omega) fun x h0 h1 => ?_
  refine Sm.ct (decide_eq_true h0) (Sm.ct (decide_eq_true (by show x < 8; omega)) ⟨_, rfl, Xox ?_ h0 (by show x < 8; omega), rfl⟩)
  intro s hs
  simp only [List.mem_cons, List.not_mem_nil, or_false] at hs
  rcases hs with rfl | rfl | rfl | rfl | rfl | rfl | rfl | rfl <;> exact Nat.le_of_ble_eq_true rfl
 ·obtain ⟨x, y⟩ := r
  obtain ⟨h0, rfl⟩ := hr
  exact h x h0
theorem tz3 {x : Int} (h0 : 0 ≤ x) (h1 : x < 3) : Tz (Aw (t := .str) [(⟨#[]⟩ : ByteArray), (⟨#[65]⟩ : ByteArray), (⟨#[97, 98, 99, 100, 101, 102, 103, 104, 105, 106, 107, 108, 109]⟩ : ByteArray)] x) := by
 refine Xox ?_ h0 (by show x < 3; omega)
 intro s hs
 simp only [List.mem_cons, List.not_mem_nil, or_false] at hs
 rcases hs with rfl | rfl | rfl <;> exact Nat.le_of_ble_eq_true rfl
theorem Xyk : Tz (⟨#[]⟩ : ByteArray) := Nat.zero_le _
theorem tz_x : Tz (⟨#[120, 32, 121]⟩ : ByteArray) := Nat.le_of_ble_eq_true rfl
def Nz (n : den nam) : Prop := Tz n.1 ∧ Tz n.2.2.2.1
theorem Yac {n : den nam} (h : Nz n) : Sz n := ⟨Nat.le_trans h.1 (by omega), Nat.le_trans h.2 (by omega)⟩
theorem Xzo (k : Nat) {b : A1} (hb : BOk b) (hl : b.length ≤ 2000) {p w : Int} (hp : 0 ≤ p) (hp2 : p < 900000) :
  Sm (Xeu k (b, p) w) fun z => Nz z.1 ∧ ∃ p' : Int, z.2 = (b, p') ∧ p ≤ p' ∧ p' ≤ p + 12 := by
 unfold Xeu Zq; (try dsimp only [Az])
 refine txk k hb hl (by omega) (by omega) fun s1 t1 => pk k hb hl (by omega) (by omega) (by omega) fun x2 _ _ => pk k hb hl (by omega) (by omega) (by omega) fun x3 _ _ => pk k hb hl (by omega) (by omega) (by omega) fun x4 _ _ => ?_
 refine Sm.cond (fun _ => ?_) (fun _ => ?_)
 ·refine txk k hb hl (by omega) (by omega) fun s5 t5 => odk k hb hl (by omega) (by omega) fun o p' h1 h2 => ?_
  refine Sm.cond (fun _ => ?_) (fun _ => ⟨_, rfl, ⟨t1, t5⟩, p', rfl, by omega, by omega⟩)
  refine pk k hb hl (by omega) (by omega) (by omega) fun x7 _ _ => ?_
  refine Sm.cond (fun _ => ?_) (fun _ => Sm.cond (fun _ => ?_) (fun _ => Sm.cond (fun _ => ?_) (fun _ => ⟨_, rfl, ⟨t1, tz_x⟩, p' + 1, rfl, by omega, by omega⟩)))
  ·exact pk k hb hl (by omega) (by omega) (by omega) fun x8 a8 b8 => Sm.ct (decide_eq_true a8) (Sm.ct (decide_eq_true (by show x8 < 3; omega)) ⟨_, rfl, ⟨tz3 a8 b8, t5⟩, p' + 1 + 1, rfl, by omega, by omega⟩)
  ·exact pk k hb hl (by omega) (by omega) (by omega) fun x8 _ _ => ⟨_, rfl, ⟨t1, t5⟩, p' + 1 + 1, rfl, by omega, by omega⟩
  ·exact pk k hb hl (by omega) (by omega) (by omega) fun x8 _ _ => ⟨_, rfl, ⟨t1, t5⟩, p' + 1 + 1, rfl, by omega, by omega⟩
 ·refine odk k hb hl (by omega) (by omega) fun o p' h1 h2 => ?_
  refine Sm.cond (fun _ => ?_) (fun _ => ⟨_, rfl, ⟨t1, Xyk⟩, p', rfl, by omega, by omega⟩)
  refine pk k hb hl (by omega) (by omega) (by omega) fun x7 _ _ => ?_
  refine Sm.cond (fun _ => ?_) (fun _ => Sm.cond (fun _ => ?_) (fun _ => Sm.cond (fun _ => ?_) (fun _ => ⟨_, rfl, ⟨t1, tz_x⟩, p' + 1, rfl, by omega, by omega⟩)))
  ·exact pk k hb hl (by omega) (by omega) (by omega) fun x8 a8 b8 => Sm.ct (decide_eq_true a8) (Sm.ct (decide_eq_true (by show x8 < 3; omega)) ⟨_, rfl, ⟨tz3 a8 b8, Xyk⟩, p' + 1 + 1, rfl, by omega, by omega⟩)
  ·exact pk k hb hl (by omega) (by omega) (by omega) fun x8 _ _ => ⟨_, rfl, ⟨t1, Xyk⟩, p' + 1 + 1, rfl, by omega, by omega⟩
  ·exact pk k hb hl (by omega) (by omega) (by omega) fun x8 _ _ => ⟨_, rfl, ⟨t1, Xyk⟩, p' + 1 + 1, rfl, by omega, by omega⟩
theorem Xtv {m : nmL} {n : den nam} (h : ∀ x ∈ m, Nz x) (hn : Nz n) : ∀ x ∈ m ++ [n], Nz x := fun x hx => by
 rcases List.mem_append.1 hx with hx | hx
 ·exact h x hx
 ·obtain rfl := List.mem_singleton.1 hx; exact hn
theorem Yx (k : Nat) (v : A1 × Int) (w : Int) {b : A1} (hb : BOk b) (hl : b.length ≤ 2000) : ∀ (n j : Nat) (p : Int) (m : nmL), j ≤ 7 → 7 - j < n → 0 ≤ p → p ≤ 20 * (j : Int) → m.length ≤ j → (∀ x ∈ m, Nz x) →
  Sm (Jq k v w n (j : Int) (b, p) m) fun z => (z.1.length ≤ 8 ∧ ∀ x ∈ z.1, Nz x) ∧ ∃ p' : Int, z.2 = (b, p') ∧ 0 ≤ p' ∧ p' ≤ 200
 | 0, j, p, m, _, h, _, _, _, _ => by omega
 | n + 1, j, p, m, hj, h, hp, hp2, hm, hz => by
  rw [Jq]
  unfold J9; (try dsimp only [Az, Bi])
  rcases Nat.lt_or_ge j 7 with hlt | hge
  ·rw [F6 j (by omega)]
   have d1 : decide ((j : Int) < (7 : Int)) = true := decide_eq_true (by omega)
   refine Sm.ct d1 (Sm.ct (decide_eq_true (by omega)) (Sm.ct d1 ?_))
   refine pk k hb hl (by omega) (by omega) (by omega) fun x1 _ _ => Sm.cond (fun _ => ?_) (fun _ => ?_)
   ·refine (Xzo k hb hl (by omega) (by omega)).bind fun z hz2 => ?_
    obtain ⟨y, s⟩ := z
    obtain ⟨hy, p2, e2, h3, h4⟩ := hz2
    dsimp only at hy e2
    subst e2
    refine Sm.ct (decide_eq_true (by show (m.length + 1) * 56 ≤ 140737488355328; omega)) ?_
    refine Yx k v w hb hl n (j + 1) p2 _ hlt (by omega) (by omega) (by omega) (by rw [List.length_append]; show m.length + 1 ≤ j + 1; omega) (Xtv hz ⟨Xox ?_ (by omega) (by show (j : Int) < 7; omega), hy.2⟩)
    intro s hs
    simp only [List.mem_cons, List.not_mem_nil, or_false] at hs
    rcases hs with rfl | rfl | rfl | rfl | rfl | rfl | rfl <;> exact Nat.le_of_ble_eq_true rfl
   ·exact Yx k v w hb hl n (j + 1) (p + 1) m hlt (by omega) (by omega) (by omega) (by omega) hz
  ·refine Sm.cf (decide_eq_false (by show ¬ (j : Int) < 7; omega)) (odk k hb hl (by omega) (by omega) fun o p' h1 h2 => Sm.cond (fun _ => ?_) (fun _ => ⟨_, rfl, ⟨by dsimp only; omega, hz⟩, p', rfl, by omega, by omega⟩))
   refine (Xzo k hb hl (by omega) (by omega)).bind fun z hz2 => ?_
   obtain ⟨y, s⟩ := z
   obtain ⟨hy, p2, e2, h3, h4⟩ := hz2
   dsimp only at hy e2
   subst e2
   exact Sm.ct (decide_eq_true (by show (m.length + 1) * 56 ≤ 140737488355328; omega)) ⟨_, rfl, ⟨by rw [List.length_append]; show m.length + 1 ≤ 8; omega, Xtv hz hy⟩, p2, rfl, by omega, by omega⟩
def Dr (z : nmL × ByteArray × Fe × Int × A1) : Prop := (z.1.length ≤ 8 ∧ ∀ x ∈ z.1, Nz x) ∧ Tz z.2.1 ∧ Xno z.2.2.1 ∧ BOk z.2.2.2.2 ∧ z.2.2.2.2.length ≤ 30
theorem Xb (q : Nat) (a0 : A1) {b : A1} (hb : BOk b) (hl : b.length ≤ 2000) (hk : 1048576 < q + 4) : ∀ (n j : Nat) (p : Int) (m : nmL), j ≤ m.length → m.length - j < n → 0 ≤ p → p ≤ 300 + (j : Int) → m.length ≤ 8 → (∀ x ∈ m, Nz x) → Sm (O8 (q + 4) a0 n (j : Int) (b, p) m) Dr
 | 0, j, p, m, _, h, _, _, _, _ => by omega
 | n + 1, j, p, m, hj, h, hp, hp2, hm, hz => by
  rw [O8]
  unfold Nm; (try dsimp only [Az])
  rcases Nat.lt_or_ge j m.length with hlt | hge
  ·rw [F6 j (by omega)]
   have d1 : decide ((j : Int) < ((m.length : Nat) : Int)) = true := decide_eq_true (by omega)
   have d0 : decide ((0 : Int) ≤ ((j : Nat) : Int)) = true := decide_eq_true (by omega)
   have hat := hz _ (Nb (t := nam) (l := m) (i := (j : Int)) (by omega) (by omega))
   refine Sm.ct d1 (Sm.ct d0 (Sm.ct d1 (Sm.cond (fun _ => ?_) (fun _ => Xb q a0 hb hl hk n (j + 1) p m hlt (by omega) hp (by omega) hm hz))))
   refine pk _ hb hl (by omega) (by omega) (by omega) fun x1 _ _ => Sm.ct d0 (Sm.ct d1 ?_)
   refine Xb q a0 hb hl hk n (j + 1) (p + 1) _ (by rw [List.length_set]; exact hlt) (by rw [List.length_set]; omega) (by omega) (by omega) (by rw [List.length_set]; exact hm) fun x hx => ?_
   rcases List.mem_or_eq_of_mem_set hx with hx | rfl
   ·exact hz x hx
   ·exact hat
  ·refine Sm.cf (decide_eq_false (by omega)) ?_
   refine (X5h q 0 hb hl hk (p := p) ⟨hp, by omega⟩).bind fun z hz2 => ?_
   obtain ⟨w, s⟩ := z
   obtain ⟨hw, p2, e2, h2, h3⟩ := hz2
   dsimp only at hw e2
   subst e2
   dsimp only
   refine txk _ hb hl (by omega) (by omega) fun s5 t5 => ?_
   obtain ⟨r, er, _, _⟩ := Wt (q + 4) b hb hl (p2 + 1) (w.length : Int) (by omega) (by omega)
   dsimp only
   rw [er, Option.bind_some]
   refine pk _ hb hl (by omega) (by omega) (by omega) fun x a x6 => ?_
   exact btb _ (by omega) hb hl (by omega) (by omega) ⟨a, by omega⟩ fun c hc hbc => ⟨_, rfl, ⟨hm, hz⟩, t5, hw, hbc, by dsimp only; omega⟩
theorem X9c (q : Nat) {b : A1} (hb : BOk b) (hk : 1048576 < q + 4) : ∃ (v : nmL) (s : ByteArray) (w : Fe) (p : Int) (c : A1), F43 (q + 4) b = some (v, s, w, p, c) ∧ (v.length ≤ 8 ∧ ∀ x ∈ v, Nz x) ∧ Tz s ∧ Xno w ∧ BOk c ∧ c.length ≤ 30 := by
 have main : Sm (F43 (q + 4) b) Dr := by
  obtain ⟨b', e, hb', hl⟩ := Xx4 (q + 4) b hb
  unfold F43 Xg5; (try dsimp only)
  rw [e, Option.bind_some]
  have nm : Sm (Xmz (q + 4) (b', 0) 0) fun z => (z.1.length ≤ 8 ∧ ∀ x ∈ z.1, Nz x) ∧ ∃ p' : Int, z.2 = (b', p') ∧ 0 ≤ p' ∧ p' ≤ 200 := Yx (q + 4) (b', 0) 0 hb' hl (q + 4) 0 0 [] (by omega) (by omega) (by omega) (by omega) (by simp) (fun x h => by cases h)
  refine nm.bind fun z hz => ?_
  obtain ⟨v, s⟩ := z
  obtain ⟨⟨hv, hv2⟩, p1, e1, h0, h1⟩ := hz
  dsimp only at hv hv2 e1
  subst e1
  exact Xb q b hb' hl hk (q + 4) 0 p1 v (Nat.zero_le _) (by omega) h0 (by omega) hv hv2
 obtain ⟨⟨v, s, w, p, c⟩, e, h1, h2, h3, h4, h5⟩ := main
 exact ⟨v, s, w, p, c, e, h1, h2, h3, h4, h5⟩
end Go.Proofs.YtdmepjjepogddaaGreat.Gn
end

section
namespace Go.Proofs.YtdmepjjepogddaaGreat.Gn
open Go.Rf Go.IntWalk
set_option linter.unusedVariables false
set_option linter.unusedSimpArgs false
theorem Xlk (q : Nat) {b : A1} (hb : BOk b) (hk : 1048576 < q + 4) : F7 (q + 4) b = some true := by
 unfold F7 Xxv; (try dsimp only)
 by_cases c0 : (b.length : Int) > 1048576
 ·exact (ct (decide_eq_true c0)).trans rfl
 refine (cf (decide_eq_false c0)).trans ?_
 obtain ⟨v, s, w, p, c, e, ⟨hv, hz⟩, hts, hw, hbc, hcl⟩ := X9c q hb hk
 have al := Xvf (q + 4) (by omega)
 have hz2 : ∀ x ∈ v, Sz x := fun x hx => Yac (hz x hx)
 obtain ⟨nb, n1, n2, n3⟩ := X9s (q + 4) v (by omega) hz2 hk
 obtain ⟨tb, t1, t2⟩ := Xnk (q + 4) s (Nat.le_trans hts (by omega)) hk
 refine (bs e).trans ?_
 rcases Bool.eq_false_or_eq_true (nb && tb) with hbt | hbt
 ·obtain ⟨rfl, rfl⟩ : nb = true ∧ tb = true := by simpa using hbt
  have hn := n3 rfl
  obtain ⟨f1, f2⟩ := Xqg (q + 4) v s (by omega) hk n1 n2 hn t1 t2
  obtain ⟨ks, k1, K⟩ := X29 (q + 4) v s (by omega) hk n2 hn t2
  obtain ⟨ks2, k2⟩ := X1p (q + 4) v ks s K (by omega) hk n2 hn t2
  have z0 : (!((fl v 5 s).2 == (fl v 5 s).2)) = false := by simp
  have z1 : @bne Int _ (fl v 5 s).1 (fl v 5 s).1 = false := by simp
  refine (bs f1).trans ((bs f2).trans ((cf z0).trans ((cf z1).trans ((bs k1).trans ((bs k2).trans ?_)))))
  rcases Bool.eq_false_or_eq_true (fl v 5 s).2 with hf | hf
  ·have hs := Xbm (n := 6) hw.1 hw.2
   obtain ⟨r, _, r1, r3, _, r5⟩ := Xf8 q (v := w) p (fl v 5 s).1 6 1 (c := c) (by have := hw.1; omega) (by omega) hbc (by omega) hk
   obtain ⟨m, m1, m2⟩ := Xwh q w p (fl v 5 s).1 (by have := hw.1; omega) (by omega) hk
   have sb : ∀ x : A1, F23 (q + 4) x x = some true := fun x => by unfold F23; (try dsimp only); simp
   have key : r.2 = decide (m > 0) := by
    cases hr : r.2 with
    | true =>
     obtain ⟨h1, _, h3, _, _, h6⟩ := r5.1 hr
     exact (decide_eq_true (m2.2 ⟨h1, h3, h6⟩)).symm
    | false =>
     refine (decide_eq_false fun h => ?_).symm
     obtain ⟨h1, h3, h6⟩ := m2.1 h
     have := r5.2 ⟨h1, by omega, h3, B0 (by decide), B0 (by decide), h6⟩
     rw [hr] at this
     cases this
   refine (cf (by rw [hf]; rfl)).trans ((bs r1).trans ((ct hf).trans ((ct (by simp)).trans ((bs m1).trans ((ct (by rw [key]; simp)).trans ?_)))))
   rcases r3 with rfl | rfl
   ·exact (ct rfl).trans ((bs al).trans rfl)
   ·exact (cf rfl).trans ((bs (sb c)).trans ((ct rfl).trans ((bs al).trans rfl)))
  ·exact (ct (by rw [hf]; rfl)).trans ((ct (by rw [hf]; rfl)).trans ((bs al).trans rfl))
 ·obtain ⟨f1, f2⟩ := Xvk (q + 4) v s hk n1 n2 t1 t2 hbt
  obtain ⟨k1, k2⟩ := Xvy (q + 4) v s hk n2 t2 hbt
  exact (bs f1).trans ((bs f2).trans ((cf rfl).trans ((cf rfl).trans ((bs k1).trans ((bs k2).trans ((ct rfl).trans ((ct rfl).trans ((bs al).trans rfl))))))))
theorem X3i (b : A1) (hb : Wf (.sl (.int .u8)) b) (hy : b.length * 1 ≤ 140737488351232) :
  ∃ k, (∀ b : A1, Contract Tryz.prog 7 [.one (.l (.s .ro (.int .u8) b))] ⟨F7 k b, fun r => (.one (.v (.bool r)), [])⟩) ∧ F7 k b = some true :=
 ⟨1048600 + 4, fun b => (F7_q (1048600 + 4)).con (b, ()), Xlk 1048600 (BOk.of hb) (by omega)⟩
end Go.Proofs.YtdmepjjepogddaaGreat.Gn
end

section
namespace Go.Proofs.YtdmepjjepogddaaGreat.fnWholeNames
open Go Go.Proofs.YtdmepjjepogddaaGreat
noncomputable abbrev jP : Program := Tryz.pinned.checked.prog
noncomputable abbrev jn : Func := Tryz.f7
noncomputable abbrev js : ChangeSpec := Rows.fnWholeNamesSpec
noncomputable abbrev jc : OpenClaim := Rows.fnWholeNamesRow
theorem Bt {a b : Bool} (h : a = true) (g : b = true) : (a && b) = true := by rw [h, g]; rfl
theorem j0 : (jc.wf (OpenSpec.ofChange js)) = true := by kernel_rfl
theorem j1 : (laidOutB jP) = true := by kernel_rfl
theorem j2 : (mapsRowed jP) = true := by kernel_rfl
theorem j3 : (jn.params.all (jP.readableRec ·)) = true := by kernel_rfl
theorem j4 : (namedTie jP jc.named js.vars) = true := by kernel_rfl
theorem j5 : ((jc.stops == [])) = true := by kernel_rfl
theorem j6 : ((jP.stops == [])) = true := by kernel_rfl
theorem j7 : ((jc.knobs == [])) = true := by kernel_rfl
theorem j8 : ((jP.stopKnobs == [])) = true := by kernel_rfl
theorem j9 : ((jc.inPlace == jP.inPlace 7)) = true := by kernel_rfl
theorem j10 : ((jc.unfollowed == jP.unfollowed 7)) = true := by kernel_rfl
theorem j11 : ((jc.recurses == jP.recurses 7)) = true := by kernel_rfl
theorem j12 : ((jc.named == jP.varsNamed 7)) = true := by kernel_rfl
theorem j13 : ((jc.maps == (jn.params.toList ++ js.plain.varTypes jP).any (jP.mapsRec ·))) = true := by kernel_rfl
theorem j14 : ((jc.ifaces == (jn.params.toList ++ js.plain.varTypes jP).any (jP.ifacesRec ·))) = true := by kernel_rfl
theorem j15 : ((jc.mapsOut == jP.mapsAmong jn.resultTypes.toList)) = true := by kernel_rfl
theorem j16 : ((jc.loops == (jn.params.toList ++ js.plain.varTypes jP).any (jP.loopsFrom ·))) = true := by kernel_rfl
theorem j17 : ((jc.wideKeys == (jn.params.toList ++ js.plain.varTypes jP ++ jn.resultTypes.toList).any (jP.wideKeysFrom ·))) = true := by kernel_rfl
theorem j18 : (js.vars.all (jP.varReadable ·)) = true := by kernel_rfl
theorem j19 : (jn.resultTypes.all (fun t => jP.readableRec t && decide (t < jP.types.size))) = true := by kernel_rfl
theorem j20 : ((jc.ifacesOut == jn.resultTypes.toList.any (jP.ifacesRec ·))) = true := by kernel_rfl
theorem j21 : ((jc.loopsOut == jn.resultTypes.toList.any (jP.loopsFrom ·))) = true := by kernel_rfl
theorem j22 : ((jc.plainKeys == jP.plainKeys)) = true := by kernel_rfl
theorem j23 : (jc.shortTexts.isNone) = true := by kernel_rfl
theorem j24 : (jP.stopsHeard) = true := by kernel_rfl
theorem j25 : (jP.mayEnter) = true := by kernel_rfl
theorem j26 : ((jc.lifted == jP.liftsFinal)) = true := by kernel_rfl
theorem j27 : ((jP.make == some jc.make)) = true := by kernel_rfl
theorem j28 : ((jc.kinds == (if jc.domain.isEmpty then [] else jn.params.toList.map fun t => match jP.underlying t with | some (.int k) => some k | _ => none))) = true := by kernel_rfl
theorem j29 : ((jc.pinned == jc.pinnedBy)) = true := by kernel_rfl
theorem j30 : ((jc.veiled == (jn.params.toList ++ js.plain.varTypes jP ++ jn.resultTypes.toList).any (jP.veiledRec ·))) = true := by kernel_rfl
theorem j31 : (jc.veiledFits jP jn.params.toList (jn.params.toList ++ js.plain.varTypes jP ++ jn.resultTypes.toList)) = true := by kernel_rfl
end Go.Proofs.YtdmepjjepogddaaGreat.fnWholeNames
end
