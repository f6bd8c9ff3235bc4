/-
  What the proof of this row needs, part 6: the typed evaluator of the translated code, the functions that the law reaches as plain functions, and what they answer.
-/
import Derived.Test.YtdmepjjepogddaaGreatRows
import Derived.JoinedOf
import Derived.KernelRfl
import Derived.Test.YtdmepjjepogddaaGreatA5
section
namespace Go.Proofs.YtdmepjjepogddaaGreat.Gn
open Go.Rf Go.IntWalk
set_option linter.unusedVariables false
set_option linter.unusedSimpArgs false
structure Gk (fr to kd id h : Int) : Prop where
 fr : 0 ≤ fr ∧ fr ≤ 65535
 to : 0 ≤ to ∧ to ≤ 65535
 kd : 0 ≤ kd ∧ kd ≤ 255
 id : 0 ≤ id ∧ id ≤ 255
 h : 0 ≤ h ∧ h ≤ 64
theorem Gk.ok {fr to kd id h x : Int} {m : Bool} {d : A4} (G : Gk fr to kd id h) (h0 : 0 ≤ x) (hx : x + (d.length : Int) ≤ 48) (hm : m = true → d ≠ []) : Lj (Bh fr to kd id h x m d) = true :=
 Na G.fr G.to G.kd (by have := G.h; omega) G.id (by omega) (by omega) (fun e => List.length_pos_iff.2 (hm e)) (fun e => by cases e)
def Cq (g : Int → Bool → A4 → den Ai) : Int → Cz → Prop
 | x, [] => x ≤ 48
 | x, p :: l => ∃ m d, p = g x m d ∧ (m = true → d ≠ []) ∧ (l ≠ [] → m = true) ∧ x + (d.length : Int) ≤ 48 ∧ Cq g (x + (d.length : Int)) l
theorem X2a (g : Int → Bool → A4 → den Ai) : ∀ {l : Cz} {x : Int} {c : A4} {f : Bool}, Ch g x l c f → x + (c.length : Int) ≤ 48 → Cq g x l
 | [], x, c, f, h, hx => by
  obtain ⟨rfl, _⟩ := h
  simpa [Cq] using hx
 | p :: l, x, c, f, h, hx => by
  obtain ⟨m, d, c2, rfl, rfl, h⟩ := h
  rw [List.length_append] at hx
  refine ⟨m, d, rfl, fun e => ?_, fun e => ?_, by omega, ?_⟩
  ·rcases h with h | h
   ·exact h.2.1
   ·rw [h.1] at e; cases e
  ·rcases h with h | h
   ·exact h.1
   ·exact absurd h.2.1 e
  ·rcases h with h | h
   ·exact X2a g h.2.2 (by omega)
   ·rw [h.2.1]
    show x + (d.length : Int) ≤ 48
    omega
theorem Yx (k : Nat) (fr to kd id h x y : Int) (m m' : Bool) (d e : A4) : Zz k (Bh fr to kd id h x m d) (Bh fr to kd id h y m' e) = some true := by
 unfold Zz Zm Bh I6; (try dsimp only)
 simp only [beq_self_eq_true, cond_true]
theorem Xr5 (k : Nat) (fr to kd id h x y : Int) (m m' : Bool) (d e : A4) : Xe7 k (Bh fr to kd id h x m d) (Bh fr to kd id h y m' e) = some true := Yx k fr to kd id h x y m m' d e
def isG (fr to kd id h : Int) (p : den Ai) : Prop := ∃ (x : Int) (m : Bool) (d : A4), p = Bh fr to kd id h x m d
theorem Xtv (k : Nat) {fr to kd id h : Int} (G : Gk fr to kd id h) (S : Cz) (hS : ∀ z ∈ S, isG fr to kd id h z) (hSl : S.length ≤ 1000) (hne : 0 < S.length) : ∀ (n : Nat) (d r : Cz) (x : Int), S = d ++ r → Cq (Bh fr to kd id h) x r → 0 ≤ x → (r ≠ [] → d = [] ∨ ∃ d0 y e, d = d0 ++ [Bh fr to kd id h y true e] ∧ 0 ≤ y ∧ y + (e.length : Int) = x) → x ≤ 48 → (d ≠ [] ∨ r ≠ []) → r.length < n →
  Eu k (S, 15) n x (d.length : Int) = some true ∧ Ev k (S, 15) n x (d.length : Int) = some true
 | 0, _, _, _, _, _, _, _, _, _, h => by omega
 | n + 1, d, [], x, hs, hq, h0, hd, hx, hor, hn => by
  have e1 : d.length = S.length := by rw [hs, List.append_nil]
  rw [Eu, Ev]
  unfold Hh G4; (try dsimp only [Ax, Bm])
  have c1 : decide ((d.length : Int) < (S.length : Int)) = false := decide_eq_false (by omega)
  have c2 : decide ((S.length : Int) > 0) = true := decide_eq_true (by omega)
  exact ⟨(cf c1).trans ((ct c2).trans ((ct (decide_eq_true hx)).trans ((bs (Bj k 15 0 1000000)).trans rfl))), (cf c1).trans ((ct c2).trans ((ct (decide_eq_true hx)).trans ((bs (Cl k 15 0 1000000)).trans rfl)))⟩
 | n + 1, d, p :: r, x, hs, hq, h0, hd, hx, hor, hn => by
  obtain ⟨m, e, rfl, hm, hr, hxe, hq⟩ := hq
  have hj : d.length < S.length := by rw [hs]; simp
  have hg : Ad (t := Ai) S (d.length : Int) = Bh fr to kd id h x m e := by rw [Ap S d.length hj]; simp [hs]
  have d1 : decide ((d.length : Int) < (S.length : Int)) = true := decide_eq_true (by omega)
  have d0 : decide ((0 : Int) ≤ (d.length : Int)) = true := decide_eq_true (by omega)
  have p0 : decide ((0 : Int) < (S.length : Int)) = true := decide_eq_true (by omega)
  obtain ⟨y0, m0, e0, hg0⟩ := hS _ (List.getElem_mem hne)
  have hg0 : Ad (t := Ai) S 0 = Bh fr to kd id h y0 m0 e0 := by
   have := Ap (t := Ai) S 0 hne
   rw [hg0] at this
   exact this
  have ok := G.ok h0 hxe hm
  have k1 : Ha k (Bh fr to kd id h x m e) = some true := by rw [C2, ok]
  have k2 : F89 k (Bh fr to kd id h x m e) = some true := by rw [Mi, ok]
  have s1 := Yx k fr to kd id h x y0 m m0 e e0
  have s2 := Xr5 k fr to kd id h x y0 m m0 e e0
  have hxl : IntKind.i64.wrap (x + (e.length : Int)) = x + (e.length : Int) := i64_in _ (by omega)
  have hs' : S = (d ++ [Bh fr to kd id h x m e]) ++ r := by rw [hs]; simp
  have hl' : ((d ++ [Bh fr to kd id h x m e]).length : Int) = ((d.length + 1 : Nat) : Int) := by simp
  have rec1 : Eu k (S, 15) n (x + (e.length : Int)) ((d.length + 1 : Nat) : Int) = some true ∧ Ev k (S, 15) n (x + (e.length : Int)) ((d.length + 1 : Nat) : Int) = some true := by
   rw [← hl']
   refine Xtv k G S hS hSl hne n (d ++ [Bh fr to kd id h x m e]) r _ hs' hq (by omega) (fun hrn => .inr ⟨d, x, e, by rw [hr hrn], h0, rfl⟩) hxe (.inl (by simp)) (by simp at hn; omega)
  rw [Eu, Ev]
  unfold Hh G4; (try dsimp only [Ax, Bm])
  rw [hg, hg0, Gv d.length (by omega)]
  have nx1 : Eu k (S, 15) n (IntKind.i64.wrap (x + ((Bh fr to kd id h x m e).2.2.2.2.2.2.2.2.length : Int))) ((d.length + 1 : Nat) : Int) = some true := by
   rw [show IntKind.i64.wrap (x + ((Bh fr to kd id h x m e).2.2.2.2.2.2.2.2.length : Int)) = x + (e.length : Int) from hxl]; exact rec1.1
  have nx2 : Ev k (S, 15) n (IntKind.i64.wrap (x + ((Bh fr to kd id h x m e).2.2.2.2.2.2.2.2.length : Int))) ((d.length + 1 : Nat) : Int) = some true := by
   rw [show IntKind.i64.wrap (x + ((Bh fr to kd id h x m e).2.2.2.2.2.2.2.2.length : Int)) = x + (e.length : Int) from hxl]; exact rec1.2
  rcases hd (by simp) with rfl | ⟨dd, y, e', rfl, hy0, hy⟩
  ·have g0 : decide ((([] : Cz).length : Int) > 0) = false := rfl
   exact ⟨(ct d1).trans ((ct d0).trans ((ct d1).trans ((bs k1).trans ((cf rfl).trans ((ct p0).trans ((bs s1).trans ((cf rfl).trans ((cf g0).trans nx1)))))))), (ct d1).trans ((ct d0).trans ((ct d1).trans ((bs k2).trans ((cf rfl).trans ((ct p0).trans ((bs s2).trans ((cf rfl).trans ((cf g0).trans nx2))))))))⟩
  ·have hl2 : (dd ++ [Bh fr to kd id h y true e']).length = dd.length + 1 := by simp
   rw [hl2] at d1 d0 hj nx1 nx2 ⊢
   have g0 : decide (((dd.length + 1 : Nat) : Int) > 0) = true := decide_eq_true (by omega)
   have e1 : IntKind.i64.wrap (((dd.length + 1 : Nat) : Int) - 1) = (dd.length : Int) := by rw [i64_in _ (by omega)]; omega
   have q1 : decide ((dd.length : Int) < (S.length : Int)) = true := decide_eq_true (by omega)
   have q0 : decide ((0 : Int) ≤ (dd.length : Int)) = true := decide_eq_true (by omega)
   have hgp : Ad (t := Ai) S (dd.length : Int) = Bh fr to kd id h y true e' := by rw [Ap S dd.length (by omega)]; simp [hs]
   rw [e1, hgp]
   have lt1 : decide ((Bh fr to kd id h x m e).2.2.2.2.2.1 < IntKind.i64.wrap ((Bh fr to kd id h y true e').2.2.2.2.2.1 + ((Bh fr to kd id h y true e').2.2.2.2.2.2.2.2.length : Int))) = false := by
    refine decide_eq_false ?_
    show ¬ x < IntKind.i64.wrap (y + (e'.length : Int))
    rw [i64_in _ (by omega)]
    omega
   exact ⟨(ct d1).trans ((ct d0).trans ((ct d1).trans ((bs k1).trans ((cf rfl).trans ((ct p0).trans ((bs s1).trans ((cf rfl).trans ((ct g0).trans ((ct q0).trans ((ct q1).trans ((ct q0).trans ((ct q1).trans ((cf lt1).trans ((ct q0).trans ((ct q1).trans ((cf rfl).trans nx1)))))))))))))))), (ct d1).trans ((ct d0).trans ((ct d1).trans ((bs k2).trans ((cf rfl).trans ((ct p0).trans ((bs s2).trans ((cf rfl).trans ((ct g0).trans ((ct q0).trans ((ct q1).trans ((cf lt1).trans ((cf rfl).trans nx2))))))))))))⟩
theorem Xg {fr to kd id h : Int} {x : Int} {S : Cz} {c : A4} {f : Bool} (hS : Ch (Bh fr to kd id h) x S c f) : ∀ z ∈ S, isG fr to kd id h z := fun z hz => by
 obtain ⟨x', m, d, e, _⟩ := Xs _ hS hz
 exact ⟨x', m, d, e⟩
theorem Su (k : Nat) {fr to kd id h : Int} (G : Gk fr to kd id h) {S : Cz} {c : A4} {f : Bool} (hS : Ch (Bh fr to kd id h) 0 S c f) (hc : c.length ≤ 48) (hne : S ≠ []) (hk : 1048576 < k) : Uh k (S, 15) = some true ∧ Xgl k (S, 15) = some true := by
 have hl := Fo _ hS
 exact Xtv k G S (Xg hS) (by omega) (List.length_pos_iff.2 hne) k [] S 0 rfl (X2a _ hS (by omega)) (by omega) (fun _ => .inl rfl) (by omega) (.inr hne) (by omega)
theorem Xb0 (k : Nat) (hk : 1048576 < k) : Xc7 k [] = some true ∧ Xbu k [] = some true := by
 obtain ⟨n, rfl⟩ : ∃ n, k = n + 1 := ⟨k - 1, by omega⟩
 unfold Xc7 Up Xbu Ti; (try dsimp only)
 rw [Gc, Hv]
 exact ⟨rfl, rfl⟩
theorem Xun (k : Nat) {fr to kd id h : Int} (G : Gk fr to kd id h) {S : Cz} {c : A4} {f : Bool} (hS : Ch (Bh fr to kd id h) 0 S c f) (hc : c.length ≤ 48) (hne : S ≠ []) (hk : 1048576 < k) : Xc7 k [(S, 15)] = some true ∧ Xbu k [(S, 15)] = some true := by
 obtain ⟨o1, o2⟩ := Su k G hS hc hne hk
 obtain ⟨n, rfl⟩ : ∃ n, k = n + 1 + 1 := ⟨k - 2, by omega⟩
 have w1 : IntKind.i64.wrap (0 + 1) = 1 := by decide
 constructor
 ·unfold Xc7 Up; (try dsimp only)
  rw [Gc]
  refine (ct rfl).trans ((ct rfl).trans ((ct rfl).trans ((bs o1).trans ((cf rfl).trans ?_))))
  have e : Lc (n + 1 + 1) [(S, 15)] (n + 1 + 1) 0 0 = some (.inr (0, 0)) := by
   rw [Lc]
   unfold Kn; (try dsimp only [Ax])
   exact (cf rfl).trans rfl
  refine (bs e).trans ?_
  show Gc (n + 1 + 1) [(S, 15)] (n + 1) (IntKind.i64.wrap (0 + 1)) = some true
  rw [w1, Gc]
  exact (cf rfl).trans rfl
 ·unfold Xbu Ti; (try dsimp only)
  rw [Hv]
  unfold G1; (try dsimp only [Ax])
  refine (ct rfl).trans ((ct rfl).trans ((ct rfl).trans ((bs o2).trans ((cf rfl).trans ((ct rfl).trans ?_)))))
  have e : Xlx (n + 1 + 1) (([(S, 15)] : List (den A3)).take (0 : Int).toNat) (Ad (t := A3) [(S, 15)] 0) = some (false, (S, 15)) := by
   unfold Xlx Xll Yg; (try dsimp only)
   show (Ln (n + 1 + 1) [] (S, 15) (n + 1 + 1) 0 (S, 15)).bind _ = _
   rw [Ln]
   rfl
  refine (bs e).trans ((cf rfl).trans ?_)
  rw [w1, Hv]
  unfold G1; (try dsimp only [Ax])
  exact (cf rfl).trans rfl
def Xlc (S : Cz) (x : Int) : Prop := ∀ z ∈ S, @LT.lt Int _ z.2.2.2.2.2.1 x
theorem N9 {fr to kd id h : Int} : ∀ {S : Cz} {x : Int} {c : A4}, Ch (Bh fr to kd id h) x S c true → Xlc S (x + (c.length : Int))
 | [], _, _, _, z, hz => by cases hz
 | p :: S, x, c, hS, z, hz => by
  obtain ⟨m, d, c2, rfl, rfl, h | h⟩ := hS
  ·have hd := List.length_pos_iff.2 h.2.1
   rw [List.length_append]
   rcases List.mem_cons.1 hz with rfl | hz
   ·show x < _
    omega
   ·have := N9 h.2.2 z hz
    rw [show x + ((d.length + c2.length : Nat) : Int) = x + (d.length : Int) + (c2.length : Int) by omega]
    exact this
  ·exact absurd h.2.2.2 (by decide)
theorem Xwn (k : Nat) (S : Cz) (p : den Ai) (hS : Xlc S p.2.2.2.2.2.1) (hSl : S.length ≤ 1000) : ∀ (n j : Nat), j ≤ S.length → S.length - j < n → Lr k (S, 15) p n false (j : Int) = Iu k (S, 15) p k false 0 ([], 15)
 | 0, j, _, h => by omega
 | n + 1, j, hj, h => by
  rw [Lr]
  unfold Kj; (try dsimp only [Ax, Bm])
  rcases Nat.lt_or_ge j S.length with hlt | hge
  ·have d1 : decide ((j : Int) < (S.length : Int)) = true := decide_eq_true (by omega)
   have d0 : decide ((0 : Int) ≤ (j : Int)) = true := decide_eq_true (by omega)
   have hz := hS _ (List.getElem_mem hlt)
   rw [Ap S j hlt, Gv j (by omega)]
   have c : (S[j].2.2.2.2.2.1 == p.2.2.2.2.2.1) = false := beq_eq_false_iff_ne.2 (Int.ne_of_lt hz)
   exact (ct d1).trans ((ct d0).trans ((ct d1).trans ((cf c).trans (Xwn k S p hS hSl n (j + 1) hlt (by omega)))))
  ·exact (cf (decide_eq_false (by show ¬ (j : Int) < (S.length : Int); omega))).trans rfl
theorem Xuw (k : Nat) (S : Cz) (p : den Ai) (hS : Xlc S p.2.2.2.2.2.1) (hSl : S.length ≤ 1000) (hd : ∀ z ∈ S, z.2.2.2.2.2.2.2.2.length ≤ 1048576) (hp : p.2.2.2.2.2.2.2.2.length ≤ 1048576) (ho : Uh k (S ++ [p], 15) = some true) : ∀ (n j : Nat), j ≤ S.length → S.length - j < n → Iu k (S, 15) p n false (j : Int) (S.take j, 15) = some ((S ++ [p], 15), true)
 | 0, j, _, h => by omega
 | n + 1, j, hj, h => by
  rw [Iu]
  unfold K5; (try dsimp only [Ax, Be, Bm])
  have ht : (S.take j).length = j := by rw [List.length_take]; omega
  rcases Nat.lt_or_ge j S.length with hlt | hge
  ·have d1 : decide ((j : Int) < (S.length : Int)) = true := decide_eq_true (by omega)
   have d0 : decide ((0 : Int) ≤ (j : Int)) = true := decide_eq_true (by omega)
   have hz := hS _ (List.getElem_mem hlt)
   unfold Iz; (try dsimp only [Ax, Be])
   rw [Ap S j hlt, Gv j (by omega)]
   have c : decide (p.2.2.2.2.2.1 < S[j].2.2.2.2.2.1) = false := decide_eq_false (by have := hz; exact Int.not_lt.2 (Int.le_of_lt hz))
   refine (ct d1).trans ((ct rfl).trans ((ct d0).trans ((ct d1).trans ((cf c).trans ((ct d0).trans ((ct d1).trans ((bs (Oe k S[j] (hd _ (List.getElem_mem hlt)))).trans ((ct (decide_eq_true (by show ((S.take j).length + 1) * 80 ≤ _; omega))).trans ?_))))))))
   have e : S.take j ++ [S[j]] = S.take (j + 1) := by rw [List.take_add_one, List.getElem?_eq_getElem hlt]; rfl
   rw [show ((S.take j, (15 : Int)) : den A3).1 ++ [S[j]] = S.take (j + 1) from e]
   exact Xuw k S p hS hSl hd hp ho n (j + 1) hlt (by omega)
  ·have e : S.take j = S := List.take_of_length_le hge
   rw [e]
   exact (cf (decide_eq_false (by show ¬ (j : Int) < (S.length : Int); omega))).trans ((ct rfl).trans ((bs (Oe k p hp)).trans ((ct (decide_eq_true (by show (S.length + 1) * 80 ≤ _; omega))).trans ((bs ho).trans ((cf rfl).trans rfl)))))
theorem Yu {fr to kd id h : Int} {S : Cz} (hS : ∀ z ∈ S, isG fr to kd id h z) (hne : 0 < S.length) : ∃ y m e, Ad (t := Ai) S 0 = Bh fr to kd id h y m e := by
 obtain ⟨y0, m0, e0, hg0⟩ := hS _ (List.getElem_mem hne)
 have := Ap (t := Ai) S 0 hne
 rw [hg0] at this
 exact ⟨_, _, _, this⟩
theorem Od {fr to kd id h x : Int} {S : Cz} {c : A4} {f : Bool} (hS : Ch (Bh fr to kd id h) x S c f) (hc : c.length ≤ 48) : ∀ z ∈ S, z.2.2.2.2.2.2.2.2.length ≤ 1048576 := fun z hz => by
 obtain ⟨x', m, d, rfl, _, e3, _⟩ := Xs _ hS hz
 show d.length ≤ 1048576
 omega
theorem X5l (k : Nat) {fr to kd id h : Int} (G : Gk fr to kd id h) {S : Cz} {c : A4} (hS : Ch (Bh fr to kd id h) 0 S c true) {m : Bool} {d : A4} (hd : m = true → d ≠ []) (hc : c.length + d.length ≤ 48) (hne : S ≠ []) (hk : 1048576 < k) :
  Xld k (S, 15) (Bh fr to kd id h (c.length : Int) m d) = some ((S ++ [Bh fr to kd id h (c.length : Int) m d], 15), true) := by
 have hl := Fo _ hS
 have hp := List.length_pos_iff.2 hne
 have S' := Jn _ hS (by rw [Int.zero_add]; exact I8 (Bh fr to kd id h) (x := (c.length : Int)) hd)
 obtain ⟨o1, _⟩ := Su k G hS (by omega) hne hk
 obtain ⟨o2, _⟩ := Su k G S' (by rw [List.length_append]; omega) (by simp) hk
 have ah := N9 hS
 rw [Int.zero_add] at ah
 have ok := G.ok (x := (c.length : Int)) (m := m) (d := d) (by omega) (by omega) hd
 obtain ⟨y, m0, e0, hg⟩ := Yu (Xg hS) hp
 unfold Xld Y1; (try dsimp only)
 rw [hg]
 refine (bs o1).trans ((cf rfl).trans ((bs (show Ha k (Bh fr to kd id h (c.length : Int) m d) = some true by rw [C2, ok])).trans ((cf rfl).trans ((ct (decide_eq_true (by show (0 : Int) < (S.length : Int); omega))).trans ((bs (Yx k fr to kd id h y (c.length : Int) m0 m e0 d)).trans ((cf rfl).trans ?_))))))
 refine (Xwn k S _ ah (by omega) k 0 (Nat.zero_le _) (by omega)).trans ?_
 exact Xuw k S _ ah (by omega) (Od hS (by omega)) (show d.length ≤ 1048576 by omega) o2 k 0 (Nat.zero_le _) (by omega)
end Go.Proofs.YtdmepjjepogddaaGreat.Gn
end

section
namespace Go.Proofs.YtdmepjjepogddaaGreat.Gn
open Go.Rf Go.IntWalk
set_option linter.unusedVariables false
set_option linter.unusedSimpArgs false
def Cd (g : Int → Bool → A4 → den Ai) : Int → Cz → A4 → Prop
 | _, [], c => c = []
 | x, p :: l, c => ∃ m d c', p = g x m d ∧ c = d ++ c' ∧ Cd g (x + (d.length : Int)) l c'
theorem X24 (g : Int → Bool → A4 → den Ai) : ∀ {l : Cz} {x : Int} {c : A4} {f : Bool}, Ch g x l c f → Cd g x l c
 | [], _, _, _, h => h.1
 | p :: l, x, c, f, h => by
  obtain ⟨m, d, c2, rfl, rfl, h | h⟩ := h
  ·exact ⟨m, d, c2, rfl, rfl, X24 g h.2.2⟩
  ·refine ⟨m, d, c2, rfl, rfl, ?_⟩
   rw [h.2.1, h.2.2.1]
   rfl
theorem Xqz (k : Nat) (fr to kd id h : Int) (S : Cz) (hSl : S.length ≤ 1000) : ∀ (n : Nat) (d r : Cz) (dat c : A4), S = d ++ r → Cd (Bh fr to kd id h) (dat.length : Int) r c → dat.length + c.length ≤ 48 → r.length < n →
  Iq k (S, 15) n (d.length : Int) (fr, to, kd, h, id, 0, false, false, dat) = some ((fr, to, kd, h, id, 0, false, false, dat ++ c), true)
 | 0, _, _, _, _, _, _, _, hn => by omega
 | n + 1, d, [], dat, c, hs, hc, hl, hn => by
  have e1 : d.length = S.length := by rw [hs, List.append_nil]
  have hc : c = [] := hc
  subst hc
  rw [Iq]
  unfold Hj; (try dsimp only [Ax, Be, Bm])
  rw [List.append_nil]
  exact (cf (decide_eq_false (by show ¬ (d.length : Int) < (S.length : Int); omega))).trans rfl
 | n + 1, d, p :: r, dat, c, hs, hc, hl, hn => by
  obtain ⟨m, e, c2, rfl, rfl, hc⟩ := hc
  rw [List.length_append] at hl
  have hj : d.length < S.length := by rw [hs]; simp
  have hg : Ad (t := Ai) S (d.length : Int) = Bh fr to kd id h (dat.length : Int) m e := by rw [Ap S d.length hj]; simp [hs]
  have d1 : decide ((d.length : Int) < (S.length : Int)) = true := decide_eq_true (by omega)
  have d0 : decide ((0 : Int) ≤ (d.length : Int)) = true := decide_eq_true (by omega)
  have hl' : ((d ++ [Bh fr to kd id h (dat.length : Int) m e]).length : Int) = ((d.length + 1 : Nat) : Int) := by simp
  have ih := Xqz k fr to kd id h S hSl n (d ++ [Bh fr to kd id h (dat.length : Int) m e]) r (dat ++ e) c2 (by rw [hs]; simp) (by rw [List.length_append, Int.natCast_add]; exact hc) (by rw [List.length_append]; omega) (by simp at hn; omega)
  rw [hl', List.append_assoc] at ih
  rw [Iq]
  unfold Hj; (try dsimp only [Ax, Be, Bm])
  rw [hg, Gv d.length (by omega)]
  have ne : ((Bh fr to kd id h (dat.length : Int) m e).2.2.2.2.2.1 != (dat.length : Int)) = false := bne_self_eq_false _
  exact (ct d1).trans ((ct d0).trans ((ct d1).trans ((cf ne).trans ((ct d0).trans ((ct d1).trans ((ct (decide_eq_true (by show (dat.length + e.length) * 1 ≤ _; omega))).trans ih))))))
theorem Xp6 (k : Nat) (fr to kd id h : Int) (S0 : Cz) (p : den Ai) (S : Cz) (hS : S = S0 ++ [p]) (hSl : S.length ≤ 1000) (b : Bool) : ∀ (n : Nat) (d r : Cz) (dat c : A4), S = d ++ r → Cd (Bh fr to kd id h) (dat.length : Int) r c → dat.length + c.length ≤ 48 → r.length < n →
  Hz k (S, 15) n (dat.length : Int) (d.length : Int) (fr, to, kd, h, id, 0, b, false, dat) = some (cond p.2.2.2.2.2.2.1 ((0, 0, 0, 0, 0, 0, false, false, []), false) ((fr, to, kd, h, id, 0, false, false, dat ++ c), true))
 | 0, _, _, _, _, _, _, _, hn => by omega
 | n + 1, d, [], dat, c, hs, hc, hl, hn => by
  have e1 : d.length = S.length := by rw [hs, List.append_nil]
  have hc : c = [] := hc
  subst hc
  have hSl2 : S.length = S0.length + 1 := by rw [hS]; simp
  rw [Hz]
  unfold G3; (try dsimp only [Ax, Be, Bm])
  have w : IntKind.i64.wrap ((S.length : Int) - 1) = (S0.length : Int) := by rw [i64_in _ (by omega)]; omega
  have hg : Ad (t := Ai) S (S0.length : Int) = p := by rw [Ap S S0.length (by omega)]; simp [hS]
  rw [w, hg, List.append_nil]
  refine (cf (decide_eq_false (by show ¬ (d.length : Int) < (S.length : Int); omega))).trans ((ct (decide_eq_true (by omega))).trans ((ct (decide_eq_true (by omega))).trans ?_))
  cases p.2.2.2.2.2.2.1 with
  | true => rfl
  | false =>
   refine (cf rfl).trans ((bs (H9 k (fr, to, kd, h, id, 0, false, false, dat) (show dat.length ≤ 1048576 by simp at hl; omega))).trans rfl)
 | n + 1, d, z :: r, dat, c, hs, hc, hl, hn => by
  obtain ⟨m, e, c2, rfl, rfl, hc⟩ := hc
  rw [List.length_append] at hl
  have hj : d.length < S.length := by rw [hs]; simp
  have hg : Ad (t := Ai) S (d.length : Int) = Bh fr to kd id h (dat.length : Int) m e := by rw [Ap S d.length hj]; simp [hs]
  have d1 : decide ((d.length : Int) < (S.length : Int)) = true := decide_eq_true (by omega)
  have d0 : decide ((0 : Int) ≤ (d.length : Int)) = true := decide_eq_true (by omega)
  have hl' : ((d ++ [Bh fr to kd id h (dat.length : Int) m e]).length : Int) = ((d.length + 1 : Nat) : Int) := by simp
  have hx : (((dat ++ e).length : Nat) : Int) = IntKind.i64.wrap ((dat.length : Int) + (e.length : Int)) := by rw [i64_in _ (by omega), List.length_append]; omega
  have ih := Xp6 k fr to kd id h S0 p S hS hSl b n (d ++ [Bh fr to kd id h (dat.length : Int) m e]) r (dat ++ e) c2 (by rw [hs]; simp) (by rw [List.length_append, Int.natCast_add]; exact hc) (by rw [List.length_append]; omega) (by simp at hn; omega)
  rw [hl', hx, List.append_assoc] at ih
  rw [Hz]
  unfold G3; (try dsimp only [Ax, Be, Bm])
  rw [hg, Gv d.length (by omega)]
  have ne : ((Bh fr to kd id h (dat.length : Int) m e).2.2.2.2.2.1 != (dat.length : Int)) = false := bne_self_eq_false _
  exact (ct d1).trans ((ct d0).trans ((ct d1).trans ((cf ne).trans ((ct (decide_eq_true (by show (dat.length + e.length) * 1 ≤ _; omega))).trans ih))))
def Xch (fr to kd id h : Int) (m : Bool) (c : A4) : den Ai × Bool := cond m ((0, 0, 0, 0, 0, 0, false, false, []), false) ((fr, to, kd, h, id, 0, false, false, c), true)
theorem Xxz (k : Nat) {fr to kd id h : Int} (G : Gk fr to kd id h) {S : Cz} {c : A4} (hS : Ch (Bh fr to kd id h) 0 S c true) {m : Bool} {d : A4} (hd : m = true → d ≠ []) (hc : c.length + d.length ≤ 48) (hne : S ≠ []) (hk : 1048576 < k) :
  Xn4 k (S ++ [Bh fr to kd id h (c.length : Int) m d], 15) = some (Xch fr to kd id h m (c ++ d)) ∧ Xm2 k (S ++ [Bh fr to kd id h (c.length : Int) m d], 15) = some (Xch fr to kd id h m (c ++ d)) := by
 have hl := Fo _ hS
 have hp := List.length_pos_iff.2 hne
 have S' := Jn _ hS (by rw [Int.zero_add]; exact I8 (Bh fr to kd id h) (x := (c.length : Int)) hd)
 obtain ⟨o2, _⟩ := Su k G S' (by rw [List.length_append]; omega) (by simp) hk
 have hcd := X24 _ S'
 cases S with
 | nil => exact absurd rfl hne
 | cons z S =>
  obtain ⟨m0, e0, c0, rfl, hce, _⟩ := hS
  have hlen : (Bh fr to kd id h 0 m0 e0 :: S ++ [Bh fr to kd id h (c.length : Int) m d]).length = S.length + 2 := by simp
  have hlen0 : (Bh fr to kd id h 0 m0 e0 :: S).length = S.length + 1 := rfl
  rw [hlen0] at hl
  have he0 : e0.length ≤ 48 := by
   have e3 := congrArg List.length hce
   rw [List.length_append] at e3
   omega
  have g0 : Ad (t := Ai) (Bh fr to kd id h 0 m0 e0 :: S ++ [Bh fr to kd id h (c.length : Int) m d]) 0 = Bh fr to kd id h 0 m0 e0 := rfl
  have w : IntKind.i64.wrap (((S.length + 2 : Nat) : Int) - 1) = ((S.length + 1 : Nat) : Int) := by rw [i64_in _ (by omega)]; omega
  have hg : Ad (t := Ai) (Bh fr to kd id h 0 m0 e0 :: S ++ [Bh fr to kd id h (c.length : Int) m d]) ((S.length + 1 : Nat) : Int) = Bh fr to kd id h (c.length : Int) m d := by
   rw [Ap _ (S.length + 1) (by rw [hlen]; omega)]; simp
  constructor
  ·have lp := Xqz k fr to kd id h (Bh fr to kd id h 0 m0 e0 :: S ++ [Bh fr to kd id h (c.length : Int) m d]) (by rw [hlen]; omega) k [] (Bh fr to kd id h 0 m0 e0 :: S ++ [Bh fr to kd id h (c.length : Int) m d]) [] (c ++ d) rfl hcd (by rw [List.length_nil, List.length_append]; omega) (by rw [hlen]; omega)
   unfold Xn4 Yf Xch; (try dsimp only [Ax, Bm])
   rw [hlen, w, hg, g0]
   refine (bs o2).trans ((cf rfl).trans ((ct (decide_eq_true (by omega))).trans ((ct (decide_eq_true (by omega))).trans ?_)))
   cases m with
   | true => rfl
   | false => exact (cf rfl).trans ((ct (decide_eq_true (by omega))).trans lp)
  ·have lp := Xp6 k fr to kd id h (Bh fr to kd id h 0 m0 e0 :: S) (Bh fr to kd id h (c.length : Int) m d) (Bh fr to kd id h 0 m0 e0 :: S ++ [Bh fr to kd id h (c.length : Int) m d]) rfl (by rw [hlen]; omega) m0 k [] (Bh fr to kd id h 0 m0 e0 :: S ++ [Bh fr to kd id h (c.length : Int) m d]) [] (c ++ d) rfl hcd (by rw [List.length_nil, List.length_append]; omega) (by rw [hlen]; omega)
   unfold Xm2 Xae Xch; (try dsimp only)
   rw [g0, hlen]
   exact (ct (decide_eq_true (by omega))).trans ((bs (H9 k (Bh fr to kd id h 0 m0 e0) (show e0.length ≤ 1048576 by omega))).trans lp)
theorem X3y (k : Nat) (S : Cz) (p : den Ai) (hS : Xlc S p.2.2.2.2.2.1) (hSl : S.length ≤ 1000) : ∀ (n j : Nat), j ≤ S.length → S.length - j < n → Kx k S p n (j : Int) p = some (-1, p) ∧ E9 k S p n (j : Int) p = some (-1, p)
 | 0, j, _, h => by omega
 | n + 1, j, hj, h => by
  rw [Kx, E9]
  unfold Ky Gi; (try dsimp only [Ax])
  rcases Nat.lt_or_ge j S.length with hlt | hge
  ·have d1 : decide ((j : Int) < (S.length : Int)) = true := decide_eq_true (by omega)
   have d0 : decide ((0 : Int) ≤ (j : Int)) = true := decide_eq_true (by omega)
   have hz := hS _ (List.getElem_mem hlt)
   obtain ⟨i1, i2⟩ := X3y k S p hS hSl n (j + 1) hlt (by omega)
   rw [Ap S j hlt, Gv j (by omega)]
   have e1 : Xn3 k S[j] p = some (false, p) := by
    unfold Xn3 Za; (try dsimp only)
    exact (cf (beq_eq_false_iff_ne.2 (Int.ne_of_lt hz))).trans rfl
   have e2 : Xmv k S[j] p = some (false, p) := by
    unfold Xmv; (try dsimp only)
    rw [show decide (S[j].2.2.2.2.2.1 > p.2.2.2.2.2.1) = false from decide_eq_false (Int.not_lt.2 (Int.le_of_lt hz))]
   exact ⟨(ct d1).trans ((ct d0).trans ((ct d1).trans ((bs e1).trans ((cf rfl).trans i1)))), (ct d1).trans ((ct d0).trans ((ct d1).trans ((bs e2).trans ((cf rfl).trans i2))))⟩
  ·have c : decide ((j : Int) < (S.length : Int)) = false := decide_eq_false (by omega)
   exact ⟨(cf c).trans rfl, (cf c).trans rfl⟩
theorem Yd0 (k : Nat) {fr to kd id h : Int} (G : Gk fr to kd id h) {S : Cz} {c : A4} (hS : Ch (Bh fr to kd id h) 0 S c true) {m : Bool} {d : A4} (hd : m = true → d ≠ []) (hc : c.length + d.length ≤ 48) (hne : S ≠ []) (hk : 1048576 < k) :
  Xmr k (S, 15) (Bh fr to kd id h (c.length : Int) m d) = some ((S ++ [Bh fr to kd id h (c.length : Int) m d], 15), true) := by
 have hl := Fo _ hS
 have hp := List.length_pos_iff.2 hne
 have S' := Jn _ hS (by rw [Int.zero_add]; exact I8 (Bh fr to kd id h) (x := (c.length : Int)) hd)
 have hc' : (c ++ d).length ≤ 48 := by rw [List.length_append]; omega
 obtain ⟨_, o2⟩ := Su k G S' hc' (by simp) hk
 have ah := N9 hS
 rw [Int.zero_add] at ah
 obtain ⟨i1, i2⟩ := X3y k S (Bh fr to kd id h (c.length : Int) m d) ah (by omega) k 0 (Nat.zero_le _) (by omega)
 have e1 : Xl2 k S (Bh fr to kd id h (c.length : Int) m d) = some (false, Bh fr to kd id h (c.length : Int) m d) := by
  unfold Xl2; (try dsimp only)
  exact (bs i1).trans rfl
 have e3 : Xgi k S = some S := by
  unfold Xgi W9; (try dsimp only [Be])
  exact (cf (decide_eq_false (by omega))).trans ((ct (decide_eq_true (by rw [List.length_nil]; omega))).trans (by rw [List.nil_append]))
 have e4 : Xic k S (S.length : Int) [Bh fr to kd id h (c.length : Int) m d] = some (S ++ [Bh fr to kd id h (c.length : Int) m d]) := by
  unfold Xic X8; (try dsimp only [Be])
  refine (ct (by rw [decide_eq_true (by omega), decide_eq_true (by omega)]; rfl)).trans ((cf rfl).trans ((ct (beq_self_eq_true _)).trans ((ct (decide_eq_true (by rw [List.length_singleton]; omega))).trans rfl)))
 have e5 : Vd k (S ++ [Bh fr to kd id h (c.length : Int) m d], 15) = some (S ++ [Bh fr to kd id h (c.length : Int) m d], 15) := by
  unfold Vd; (try dsimp only)
  exact (bs (Ic k _ (by simp; omega) (Od S' hc') hk)).trans rfl
 unfold Xmr Xad; (try dsimp only [Bm])
 exact (bs e1).trans ((cf rfl).trans ((bs i2).trans ((ct rfl).trans ((bs e3).trans ((bs e4).trans ((bs o2).trans ((cf rfl).trans ((bs e5).trans rfl))))))))
end Go.Proofs.YtdmepjjepogddaaGreat.Gn
end

section
namespace Go.Proofs.YtdmepjjepogddaaGreat.Gn
open Go.Rf Go.IntWalk
set_option linter.unusedVariables false
set_option linter.unusedSimpArgs false
abbrev prL : Type := List (den A3)
theorem Z7 (k : Nat) (hk : 1048576 < k) : O9 k [] = some [] := by
 obtain ⟨n, rfl⟩ : ∃ n, k = n + 1 := ⟨k - 1, by omega⟩
 unfold O9 Sy; (try dsimp only)
 rw [Hx]
 unfold E7; (try dsimp only [Ax, Be])
 exact (cf rfl).trans rfl
theorem Xge (k : Nat) {T : Cz} (hT : T.length ≤ 1000) (hs : ∀ z ∈ T, z.2.2.2.2.2.2.2.2.length ≤ 1048576) (hk : 1048576 < k) : O9 k [(T, 15)] = some [(T, 15)] := by
 have e5 : Vd k (T, 15) = some (T, 15) := by
  unfold Vd; (try dsimp only)
  exact (bs (Ic k T (by omega) hs hk)).trans rfl
 obtain ⟨n, rfl⟩ : ∃ n, k = n + 1 + 1 := ⟨k - 2, by omega⟩
 unfold O9 Sy; (try dsimp only)
 rw [Hx]
 unfold E7; (try dsimp only [Ax, Be])
 refine (ct rfl).trans ((ct rfl).trans ((ct rfl).trans ((bs e5).trans ((ct rfl).trans ?_))))
 rw [show IntKind.i64.wrap (0 + 1) = 1 by decide, Hx]
 unfold E7; (try dsimp only [Ax, Be])
 exact (cf rfl).trans rfl
theorem X3e (k : Nat) (hk : 1048576 < k) : Xc8 k [] 0 = some ([], 0) := by
 obtain ⟨n, rfl⟩ : ∃ n, k = n + 1 := ⟨k - 1, by omega⟩
 unfold Xc8 Tg; (try dsimp only)
 have e : Jc (n + 1) [] 0 = some (-1, [], 0) := by
  unfold Jc Je; (try dsimp only)
  rw [Dv]
  unfold Dc; (try dsimp only [Ax])
  exact (cf rfl).trans rfl
 exact (bs e).trans ((ct rfl).trans rfl)
theorem Yc2 (k : Nat) (T : Cz) (hk : 1048576 < k) : Xc8 k [(T, 15)] 0 = some ([(T, 15)], 0) := by
 obtain ⟨n, rfl⟩ : ∃ n, k = n + 1 + 1 := ⟨k - 2, by omega⟩
 unfold Xc8 Tg; (try dsimp only)
 have e : Jc (n + 1 + 1) [(T, 15)] 0 = some (-1, [(T, 15)], 0) := by
  unfold Jc Je; (try dsimp only)
  rw [Dv]
  unfold Dc; (try dsimp only [Ax])
  refine (ct rfl).trans ((ct rfl).trans ((ct rfl).trans ((bs (show Xqb (n + 1 + 1) (T, 15) 0 = some (false, 0) from rfl)).trans ((cf rfl).trans ?_))))
  rw [show IntKind.i64.wrap (0 + 1) = 1 by decide, Dv]
  unfold Dc; (try dsimp only [Ax])
  exact (cf rfl).trans rfl
 exact (bs e).trans ((ct rfl).trans rfl)
theorem Ye6 (k : Nat) (p : den Ai) (hk : 1048576 < k) : Jz k [] p = some (-1, [], p) := by
 obtain ⟨n, rfl⟩ : ∃ n, k = n + 1 := ⟨k - 1, by omega⟩
 unfold Jz Jk; (try dsimp only)
 rw [E4]
 unfold Ea; (try dsimp only [Ax])
 exact (cf rfl).trans rfl
theorem Ydk (k : Nat) {fr to kd id h x : Int} {m : Bool} {d : A4} {S : Cz} (hS : ∀ z ∈ S, isG fr to kd id h z) (hne : 0 < S.length) (hk : 1048576 < k) : Jz k [(S, 15)] (Bh fr to kd id h x m d) = some (0, [(S, 15)], Bh fr to kd id h x m d) := by
 obtain ⟨n, rfl⟩ : ∃ n, k = n + 1 := ⟨k - 1, by omega⟩
 obtain ⟨y, m0, e0, hg⟩ := Yu hS hne
 unfold Jz Jk; (try dsimp only)
 rw [E4]
 unfold Ea; (try dsimp only [Ax])
 have e : Xl9 (n + 1) (S, 15) (Bh fr to kd id h x m d) = some (true, Bh fr to kd id h x m d) := by
  unfold Xl9 Xbd; (try dsimp only)
  rw [hg]
  exact (ct (decide_eq_true (by show (0 : Int) < (S.length : Int); omega))).trans ((bs (Xr5 (n + 1) fr to kd id h y x m0 m e0 d)).trans rfl)
 exact (ct rfl).trans ((ct rfl).trans ((ct rfl).trans ((bs e).trans ((ct rfl).trans rfl))))
theorem Yeo (k : Nat) {fr to kd id h : Int} (G : Gk fr to kd id h) {c : A4} (hc : c.length ≤ 48) (hk : 1048576 < k) :
  F62 k [] (Bh fr to kd id h 0 false c) 0 = some ([], Bh fr to kd id h 0 false c, true) ∧ Te k [] (Bh fr to kd id h 0 false c) 0 = some ([], Bh fr to kd id h 0 false c, true) := by
 have ok := G.ok (x := 0) (m := false) (d := c) (by omega) (by omega) (fun e => by cases e)
 have k1 : Ha k (Bh fr to kd id h 0 false c) = some true := by rw [C2, ok]
 have k2 : F89 k (Bh fr to kd id h 0 false c) = some true := by rw [Mi, ok]
 have o := Xb0 k hk
 have cp := Oe k (Bh fr to kd id h 0 false c) (show c.length ≤ 1048576 by omega)
 have cq := H9 k (Bh fr to kd id h 0 false c) (show c.length ≤ 1048576 by omega)
 constructor
 ·obtain ⟨n, rfl⟩ : ∃ n, k = n + 1 := ⟨k - 1, by omega⟩
  unfold F62 Wl; (try dsimp only)
  refine (bs o.1).trans ((cf rfl).trans ((bs k1).trans ((cf rfl).trans ((bs (Bj _ 0 0 999985)).trans ((cf rfl).trans ((ct rfl).trans ?_))))))
  rw [Il]
  unfold D7; (try dsimp only [Ax, Be])
  exact (cf rfl).trans ((ct rfl).trans ((bs cp).trans rfl))
 ·unfold Te Pz; (try dsimp only)
  exact (bs o.2).trans ((cf rfl).trans ((bs k2).trans ((cf rfl).trans ((bs (Cl k 0 0 999985)).trans ((cf rfl).trans ((bs (Z7 k hk)).trans ((bs (X3e k hk)).trans ((ct rfl).trans ((ct rfl).trans ((bs (Z7 k hk)).trans ((bs cq).trans rfl)))))))))))
theorem Ydn (k : Nat) {fr to kd id h : Int} (G : Gk fr to kd id h) {d : A4} (hd : d ≠ []) (hc : d.length ≤ 48) (hk : 1048576 < k) :
  F62 k [] (Bh fr to kd id h 0 true d) 0 = some ([([Bh fr to kd id h 0 true d], 15)], noP, false) ∧ Te k [] (Bh fr to kd id h 0 true d) 0 = some ([([Bh fr to kd id h 0 true d], 15)], noP, false) := by
 have ok := G.ok (x := 0) (m := true) (d := d) (by omega) (by omega) (fun _ => hd)
 have k1 : Ha k (Bh fr to kd id h 0 true d) = some true := by rw [C2, ok]
 have k2 : F89 k (Bh fr to kd id h 0 true d) = some true := by rw [Mi, ok]
 have o := Xb0 k hk
 have cp := Oe k (Bh fr to kd id h 0 true d) (show d.length ≤ 1048576 by omega)
 have w15 : IntKind.i64.wrap (0 + 15) = 15 := by decide
 constructor
 ·obtain ⟨n, rfl⟩ : ∃ n, k = n + 1 := ⟨k - 1, by omega⟩
  unfold F62 Wl; (try dsimp only)
  refine (bs o.1).trans ((cf rfl).trans ((bs k1).trans ((cf rfl).trans ((bs (Bj _ 0 0 999985)).trans ((cf rfl).trans ((ct rfl).trans ?_))))))
  rw [Il]
  unfold D7; (try dsimp only [Ax, Be])
  rw [w15]
  exact (cf rfl).trans ((cf rfl).trans ((ct rfl).trans ((bs cp).trans ((ct rfl).trans ((cf rfl).trans rfl)))))
 ·have p1 := Xge k (T := [Bh fr to kd id h 0 true d]) (by simp) (fun z hz => by obtain rfl := List.mem_singleton.1 hz; show d.length ≤ 1048576; omega) hk
  unfold Te Pz; (try dsimp only)
  refine (bs o.2).trans ((cf rfl).trans ((bs k2).trans ((cf rfl).trans ((bs (Cl k 0 0 999985)).trans ((cf rfl).trans ((bs (Z7 k hk)).trans ((bs (X3e k hk)).trans ((ct rfl).trans ((cf rfl).trans ?_)))))))))
  unfold Oo; (try dsimp only [Ax, Be])
  refine (bs (Ye6 k _ hk)).trans ((ct rfl).trans ((ct rfl).trans ?_))
  dsimp only
  rw [w15]
  have w2 : IntKind.i64.wrap (((([] ++ [([Bh fr to kd id h 0 true d], 15)] : prL)).length : Int) - 3) = -2 := by show IntKind.i64.wrap (1 - 3) = -2; decide
  rw [w2]
  exact (ct rfl).trans ((bs p1).trans rfl)
theorem Yfi (k : Nat) {fr to kd id h : Int} (G : Gk fr to kd id h) {S : Cz} {c : A4} (hS : Ch (Bh fr to kd id h) 0 S c true) {m : Bool} {d : A4} (hd : m = true → d ≠ []) (hc : c.length + d.length ≤ 48) (hne : S ≠ []) (hk : 1048576 < k) :
  F62 k [(S, 15)] (Bh fr to kd id h (c.length : Int) m d) 0 = some (cond m [(S ++ [Bh fr to kd id h (c.length : Int) m d], 15)] [], (Xch fr to kd id h m (c ++ d)).1, (Xch fr to kd id h m (c ++ d)).2) ∧
  Te k [(S, 15)] (Bh fr to kd id h (c.length : Int) m d) 0 = some (cond m [(S ++ [Bh fr to kd id h (c.length : Int) m d], 15)] [], (Xch fr to kd id h m (c ++ d)).1, (Xch fr to kd id h m (c ++ d)).2) := by
 have hl := Fo _ hS
 have hp := List.length_pos_iff.2 hne
 have hcp : 0 < c.length := by
  have := N9 hS
  cases S with
  | nil => exact absurd rfl hne
  | cons z S =>
   obtain ⟨m0, e0, c0, rfl, rfl, h | h⟩ := hS
   ·have := List.length_pos_iff.2 h.2.1
    rw [List.length_append]; omega
   ·exact absurd h.2.2.2 (by decide)
 have ok := G.ok (x := (c.length : Int)) (m := m) (d := d) (by omega) (by omega) hd
 have k1 : Ha k (Bh fr to kd id h (c.length : Int) m d) = some true := by rw [C2, ok]
 have k2 : F89 k (Bh fr to kd id h (c.length : Int) m d) = some true := by rw [Mi, ok]
 have o := Xun k G hS (by omega) hne hk
 obtain ⟨y, m0, e0, hg⟩ := Yu (Xg hS) hp
 have pc := X5l k G hS hd hc hne hk
 have pi := Yd0 k G hS hd hc hne hk
 have wh := Xxz k G hS hd hc hne hk
 have S' := Jn _ hS (by rw [Int.zero_add]; exact I8 (Bh fr to kd id h) (x := (c.length : Int)) hd)
 have hc' : (c ++ d).length ≤ 48 := by rw [List.length_append]; omega
 have p1 := Xge k (T := S) (by omega) (Od hS (by omega)) hk
 have p2 := Xge k (T := S ++ [Bh fr to kd id h (c.length : Int) m d]) (by simp; omega) (Od S' hc') hk
 have at0 : ((Bh fr to kd id h (c.length : Int) m d).2.2.2.2.2.1 == (0 : Int)) = false := beq_eq_false_iff_ne.2 (by show ¬ (c.length : Int) = 0; omega)
 have w1 : IntKind.i64.wrap (0 + 1) = 1 := by decide
 constructor
 ·obtain ⟨n, rfl⟩ : ∃ n, k = n + 1 + 1 := ⟨k - 2, by omega⟩
  unfold F62 Wl; (try dsimp only)
  refine (bs o.1).trans ((cf rfl).trans ((bs k1).trans ((cf rfl).trans ((bs (Bj _ 0 0 999985)).trans ((cf rfl).trans ((cf at0).trans ?_))))))
  rw [Il]
  unfold D7; (try dsimp only [Ax, Be])
  rw [show Ad (t := A3) [(S, 15)] 0 = (S, 15) from rfl, hg]
  refine (ct rfl).trans ((ct rfl).trans ((ct rfl).trans ((cf rfl).trans ((ct rfl).trans ((ct (decide_eq_true (by show (0 : Int) < (S.length : Int); omega))).trans ((bs (Yx _ fr to kd id h y (c.length : Int) m0 m e0 d)).trans ((ct rfl).trans ((bs pc).trans ((bs wh.1).trans ((ct rfl).trans ?_))))))))))
  rw [w1]
  cases m with
  | true =>
   refine (ct rfl).trans ((ct rfl).trans ?_)
   rw [Il]
   unfold D7; (try dsimp only [Ax, Be])
   exact (cf rfl).trans ((cf rfl).trans ((cf rfl).trans ((cf rfl).trans rfl)))
  | false =>
   refine (cf rfl).trans ?_
   rw [Il]
   unfold D7; (try dsimp only [Ax, Be])
   exact (cf rfl).trans ((cf rfl).trans ((cf rfl).trans ((cf rfl).trans rfl)))
 ·unfold Te Pz; (try dsimp only)
  refine (bs o.2).trans ((cf rfl).trans ((bs k2).trans ((cf rfl).trans ((bs (Cl k 0 0 999985)).trans ((cf rfl).trans ((bs p1).trans ((bs (Yc2 k S hk)).trans ((cf at0).trans ?_))))))))
  unfold Oo; (try dsimp only [Ax, Be])
  refine (bs (Ydk k (Xg hS) hp hk)).trans ((cf rfl).trans ((ct rfl).trans ((ct rfl).trans ?_)))
  refine (bs pi).trans ((cf rfl).trans ((bs wh.2).trans ?_))
  cases m with
  | true => exact (cf rfl).trans ((ct rfl).trans ((ct rfl).trans ((bs p2).trans rfl)))
  | false =>
   dsimp only
   rw [w1]
   exact (ct rfl).trans ((bs (show X05 k [(S, 15)] 0 1 = some [] from rfl)).trans ((bs (Z7 k hk)).trans rfl))
end Go.Proofs.YtdmepjjepogddaaGreat.Gn
end

section
namespace Go.Proofs.YtdmepjjepogddaaGreat.Gn
open Go.Rf Go.IntWalk
set_option linter.unusedVariables false
set_option linter.unusedSimpArgs false
theorem Xt1 (k : Nat) {fr to kd id h : Int} (G : Gk fr to kd id h) (v : E0) (w p q o : Int) (cc : A4) (t : den Dg) (ht : t.1.length ≤ 1000) (hk : 1048576 < k) : ∀ (n : Nat) (S R : Cz) (c1 c2 : A4), t.1 = S ++ R → Ch (Bh fr to kd id h) 0 S c1 true → Ch (Bh fr to kd id h) (c1.length : Int) R c2 false → c1.length + c2.length ≤ 48 → R.length < n →
  H6 k v w p q o cc n (S.length : Int) t (if S = [] then [] else [(S, 15)]) = some (c1 ++ c2, true) ∧ Ja k v w p q o cc n (t.1.length : Int) (S.length : Int) t.1 (if S = [] then [] else [(S, 15)]) = some (c1 ++ c2, true)
 | 0, _, _, _, _, _, _, _, _, h => by omega
 | n + 1, S, [], c1, c2, _, _, hR, _, _ => absurd hR.2 (by decide)
 | n + 1, S, r :: R, c1, c2, hT, hS, hR, hc, hn => by
  obtain ⟨m, d, c3, rfl, rfl, hR⟩ := hR
  rw [List.length_append] at hc
  have hd : m = true → d ≠ [] := fun e => by
   rcases hR with h2 | h2
   ·exact h2.2.1
   ·rw [h2.1] at e; cases e
  have hj : S.length < t.1.length := by rw [hT]; simp
  have hg : Ad (t := Ai) t.1 (S.length : Int) = Bh fr to kd id h (c1.length : Int) m d := by rw [Ap t.1 S.length hj]; simp [hT]
  have d1 : decide ((S.length : Int) < (t.1.length : Int)) = true := decide_eq_true (by omega)
  have d0 : decide ((0 : Int) ≤ (S.length : Int)) = true := decide_eq_true (by omega)
  have one := I8 (Bh fr to kd id h) (x := 0 + (c1.length : Int)) hd
  have S' := Jn _ hS one
  rw [Int.zero_add] at S'
  have he : ∃ q1 : den Ai, q1.2.2.2.2.2.2.2.2 = c1 ++ d ∧ (F62 k (if S = [] then [] else [(S, 15)]) (Bh fr to kd id h (c1.length : Int) m d) 0 = some (cond m ([(S ++ [Bh fr to kd id h (c1.length : Int) m d], 15)], noP, false) ([], q1, true))) ∧
    (Te k (if S = [] then [] else [(S, 15)]) (Bh fr to kd id h (c1.length : Int) m d) 0 = some (cond m ([(S ++ [Bh fr to kd id h (c1.length : Int) m d], 15)], noP, false) ([], q1, true))) := by
   by_cases hs : S = []
   ·subst hs
    obtain ⟨rfl, _⟩ := hS
    rw [if_pos rfl]
    cases m with
    | true =>
     obtain ⟨b1, b2⟩ := Ydn k G (hd rfl) (by omega) hk
     exact ⟨(0, 0, 0, 0, 0, 0, false, false, [] ++ d), rfl, b1, b2⟩
    | false =>
     obtain ⟨b1, b2⟩ := Yeo k G (c := d) (by omega) hk
     exact ⟨Bh fr to kd id h 0 false d, rfl, b1, b2⟩
   ·rw [if_neg hs]
    obtain ⟨b1, b2⟩ := Yfi k G hS hd (by omega) hs hk
    refine ⟨(fr, to, kd, h, id, 0, false, false, c1 ++ d), rfl, ?_, ?_⟩
    ·rw [b1]; cases m <;> rfl
    ·rw [b2]; cases m <;> rfl
  obtain ⟨q1, hq, h1, h2⟩ := he
  rw [H6, Ja]
  unfold Hm Jj; (try dsimp only [Ax, Be])
  rw [hg, h1, h2, Gv S.length (by omega)]
  rcases hR with ⟨rfl, _, h3⟩ | ⟨rfl, rfl, rfl, _⟩
  ·have ih := Xt1 k G v w p q o cc t ht hk n (S ++ [Bh fr to kd id h (c1.length : Int) true d]) R (c1 ++ d) c3 (by rw [hT]; simp) S' (by rw [List.length_append, Int.natCast_add]; exact h3) (by rw [List.length_append]; omega) (by simp at hn; omega)
   rw [if_neg (by simp), List.append_assoc, show (((S ++ [Bh fr to kd id h (c1.length : Int) true d]).length : Nat) : Int) = ((S.length + 1 : Nat) : Int) by simp] at ih
   exact ⟨(ct d1).trans ((ct d0).trans ((ct d1).trans ((bs rfl).trans ((cf rfl).trans ih.1)))), (ct d1).trans ((ct d0).trans ((ct d1).trans ((bs rfl).trans ((cf rfl).trans ih.2))))⟩
  ·have hl : q1.2.2.2.2.2.2.2.2.length ≤ 48 := by rw [hq, List.length_append]; simp at hc; omega
   refine ⟨(ct d1).trans ((ct d0).trans ((ct d1).trans ((bs rfl).trans ((ct rfl).trans ((ct (decide_eq_true (by show (0 + q1.2.2.2.2.2.2.2.2.length) * 1 ≤ _; omega))).trans ?_))))), (ct d1).trans ((ct d0).trans ((ct d1).trans ((bs rfl).trans ((ct rfl).trans ((bs (K7 k _ (show q1.2.2.2.2.2.2.2.2.length ≤ 4194304 by omega))).trans ?_)))))⟩
   ·rw [List.append_nil, ← hq]; rfl
   ·rw [List.append_nil, ← hq]
theorem sent (q : Nat) {v : E0} {a : Nat} {s : den sta} (hs : v[a]? = some s) {to kd id : Int} {c : A4} (hv : ∀ s ∈ v, StaOk (q + 4) s) (hvl : v.length ≤ 5) (hto : 0 ≤ to ∧ to ≤ 65535) (hkd : 0 ≤ kd ∧ kd ≤ 255) (hid : 0 ≤ id ∧ id ≤ 255) (hc : c.length ≤ 48) (hb : BOk c) (hk : 1048576 < q + 4) (hN : F59 (q + 4) v = some true) :
  ∃ t : den Dg, F61 (q + 4) v (a : Int) (s.1, to, kd, 64, id, 0, false, false, c) = some t ∧ Xl6 (q + 4) v (a : Int) (s.1, to, kd, 64, id, 0, false, false, c) = some t ∧ ((t.1 = [] ∧ Tf v to 64 a = false) ∨ (∃ h : Int, (0 ≤ h ∧ h ≤ 64) ∧ Ch (Bh s.1 to kd id h) 0 t.1 c false) ∧ Tf v to 64 a = true) := by
 obtain ⟨hi, hse⟩ := List.getElem?_eq_some_iff.1 hs
 have sk := hv _ (List.getElem_mem hi)
 rw [hse] at sk
 have hfr : 0 ≤ (s.1 : Int) ∧ (s.1 : Int) ≤ 65535 := A7 sk.at1
 have ok : Lj (s.1, to, kd, 64, id, 0, false, false, c) = true := Na hfr hto hkd (by omega) hid (by omega) hc (fun e => by cases e) (fun e => by cases e)
 obtain ⟨t, t1, t2, _⟩ := trav q v (a : Int) (s.1, to, kd, 64, id, 0, false, false, c) hv hvl hk 12288 (q + 4) (q + 4) 0 ([], [], 0) [(a : Int)] [(s.1, to, kd, 64, id, 0, false, false, c)] rfl (by simp) (fun x hx => by
   have e : x = (a : Int) := by simpa using hx
   rw [e]; show (0 : Int) ≤ (a : Int) ∧ (a : Int) < (v.length : Int); omega) (fun r hr => by
   have e := List.mem_singleton.1 (show r ∈ [((s.1, to, kd, 64, id, 0, false, false, c) : den Ai)] from hr)
   rw [e]; exact ⟨ok, hb⟩) (by
   have := Ydb ok
   rw [List.drop_zero]
   simp only [I2]
   omega) (by omega) (by omega) (by omega) (by simp) (by simp) (fun r h => by cases h) (fun r h => by cases h) (by show (0 : Int) ≤ 0 ∧ (0 : Int) + ((12288 : Nat) : Int) ≤ 20000; omega)
 have I : Inv v s.1 to kd id c (Tf v to 64 a) (([], [], 0) : den Dg).1 [((a : Int), s.1, to, kd, 64, id, 0, false, false, c)] :=
  Xjj (fr := s.1) (to := to) (kd := kd) (id := id) (c := c) (a := a) (h := 64) (A := [Bh s.1 to kd id 64 0 false c]) hi (by omega) (I8 _ (fun e => by cases e))
 refine ⟨t, ?_, ?_, Sq q (a : Int) (s.1, to, kd, 64, id, 0, false, false, c) hv hvl hk hfr hto hkd hid hc hb (q + 4) ([], [], 0) _ t _ I t2⟩
 ·unfold F61 Xbs; (try dsimp only [Az])
  have p1 := C2 (q + 4) (s.1, to, kd, 64, id, 0, false, false, c)
  rw [ok] at p1
  have wl1 : IntKind.i64.wrap ((v.length : Int) - 1) = (v.length : Int) - 1 := i64_in _ (by omega)
  have i1 := Bj (q + 4) (a : Int) 0 (IntKind.i64.wrap ((v.length : Int) - 1))
  rw [wl1, B4 (show (0 : Int) ≤ (a : Int) ∧ (a : Int) ≤ (v.length : Int) - 1 by omega)] at i1
  rw [wl1]
  exact (bs hN).trans ((cf rfl).trans ((bs p1).trans ((cf rfl).trans ((bs i1).trans ((cf rfl).trans t1)))))
 ·unfold Xl6 Zq; (try dsimp only [Az])
  exact t2
theorem Xhm (q : Nat) {v : E0} (w p kd id : Int) {c : A4} (hl : v.length ≤ 1048576) (hs : Ub v ≤ 1048576) (hb : BOk c) (hcl : c.length ≤ 1048576) (hk : 1048576 < q + 4) :
  ∃ r : A4 × Bool, F13 (q + 4) v w p kd id c = some r ∧ F16 (q + 4) v w p kd id c = some r ∧ (r = ([], false) ∨ r = (c, true)) ∧ r.1.length ≤ 48 ∧ (r.2 = true ↔ F59 (q + 4) v = some true ∧ c.length ≤ 48 ∧ inB p 0 65535 = true ∧ inB kd 0 255 = true ∧ inB id 0 255 = true ∧ ∃ a : Nat, w = (a : Int) ∧ a < v.length ∧ Tf v p 64 a = true) := by
 obtain ⟨b, n1, n2, n3⟩ := Xfk q v hl hs hk
 have i1 := Bj (q + 4) w 0 (IntKind.i64.wrap ((v.length : Int) - 1))
 have i2 := Cl (q + 4) w 0 (IntKind.i64.wrap ((v.length : Int) - 1))
 have wl1 : IntKind.i64.wrap ((v.length : Int) - 1) = (v.length : Int) - 1 := i64_in _ (by omega)
 have w1 := Eh (q + 4) p
 have w2 := Cl (q + 4) kd 0 255
 have w3 := Cl (q + 4) id 0 255
 have no : ∀ x : Option (A4 × Bool), x = some ([], false) → x = some ([], false) := fun _ h => h
 unfold F13 Xjo F16 Xko; (try dsimp only [Ax])
 cases b with
 | false => exact ⟨_, (bs n1).trans ((ct rfl).trans rfl), (bs n2).trans ((ct rfl).trans rfl), .inl rfl, by simp, iff_of_false (by decide) (fun h => by have h1 := h.1; rw [n1] at h1; cases h1)⟩
 | true =>
  cases hw : inB w 0 (IntKind.i64.wrap ((v.length : Int) - 1)) with
  | false =>
   rw [hw] at i1 i2
   exact ⟨_, (bs n1).trans ((cf rfl).trans ((bs i1).trans ((ct rfl).trans rfl))), (bs n2).trans ((cf rfl).trans ((bs i2).trans ((ct rfl).trans rfl))), .inl rfl, by simp, iff_of_false (by decide) (fun h => by
    obtain ⟨_, _, _, _, _, a, e, ha, _⟩ := h
    rw [wl1, e, B4 (show (0 : Int) ≤ (a : Int) ∧ (a : Int) ≤ (v.length : Int) - 1 by omega)] at hw
    cases hw)⟩
  | true =>
   rw [hw] at i1 i2
   rw [wl1] at hw
   have hw := A7 hw
   obtain ⟨a, rfl⟩ : ∃ i : Nat, w = (i : Int) := ⟨w.toNat, by omega⟩
   have ha : a < v.length := by omega
   have d1 : decide ((a : Int) < (v.length : Int)) = true := decide_eq_true (by omega)
   have d0 : decide ((0 : Int) ≤ (a : Int)) = true := decide_eq_true (by omega)
   by_cases hc : ¬ c.length ≤ 48
   ·have c1 : decide ((c.length : Int) > 48) = true := decide_eq_true (by omega)
    refine ⟨([], false), (bs n1).trans ((cf rfl).trans ((bs i1).trans ((cf rfl).trans ((ct c1).trans rfl)))), (bs n2).trans ((cf rfl).trans ((bs i2).trans ((cf rfl).trans ((bs w1).trans ?_)))), .inl rfl, by simp, iff_of_false (by decide) (fun h => hc h.2.1)⟩
    cases inB p 0 65535; · rfl
    refine (cf rfl).trans ((bs w2).trans ?_)
    cases inB kd 0 255; · rfl
    refine (cf rfl).trans ((bs w3).trans ?_)
    cases inB id 0 255; · rfl
    exact (cf rfl).trans ((ct c1).trans rfl)
   ·replace hc := Decidable.not_not.1 hc
    have c1 : decide ((c.length : Int) > 48) = false := decide_eq_false (by omega)
    have hg := Ap v a ha
    obtain ⟨h1, h2⟩ := n3 rfl
    have sk := h1 _ (List.getElem_mem ha)
    have hfr := A7 sk.at1
    by_cases hok : inB p 0 65535 = true ∧ inB kd 0 255 = true ∧ inB id 0 255 = true
    ·obtain ⟨o1, o2, o3⟩ := hok
     rw [o1] at w1; rw [o2] at w2; rw [o3] at w3
     obtain ⟨t, t1, t2, t3⟩ := sent q (List.getElem?_eq_getElem ha) h1 h2 (A7 o1) (A7 o2) (A7 o3) hc hb hk n1
     have Pa : ∃ r : A4 × Bool, H6 (q + 4) v (a : Int) p kd id c (q + 4) 0 t [] = some r ∧ Ja (q + 4) v (a : Int) p kd id c (q + 4) (t.1.length : Int) 0 t.1 [] = some r ∧ ((r = ([], false) ∧ Tf v p 64 a = false) ∨ (r = (c, true) ∧ Tf v p 64 a = true)) := by
      rcases t3 with ⟨e, hβ⟩ | ⟨⟨h, hh, hC⟩, hβ⟩
      ·refine ⟨([], false), ?_, ?_, .inl ⟨rfl, hβ⟩⟩
       ·rw [H6]
        unfold Hm; (try dsimp only [Ax, Be])
        rw [e]
        exact (cf rfl).trans rfl
       ·rw [e, Ja]
        unfold Jj; (try dsimp only [Ax])
        exact (cf rfl).trans rfl
      ·have hlen := Fo _ hC
       have G : Gk v[a].1 p kd id h := ⟨hfr, A7 o1, A7 o2, A7 o3, hh⟩
       have := Xt1 (q + 4) G v (a : Int) p kd id c t (by omega) hk (q + 4) [] t.1 [] c rfl ⟨rfl, rfl⟩ hC (by simpa using hc) (by omega)
       exact ⟨(c, true), this.1, this.2, .inr ⟨rfl, hβ⟩⟩
     obtain ⟨r, r1, r2, r3⟩ := Pa
     refine ⟨r, (bs n1).trans ((cf rfl).trans ((bs i1).trans ((cf rfl).trans ((cf c1).trans ((ct d0).trans ((ct d1).trans ?_)))))), (bs n2).trans ((cf rfl).trans ((bs i2).trans ((cf rfl).trans ((bs w1).trans ((cf rfl).trans ((bs w2).trans ((cf rfl).trans ((bs w3).trans ((cf rfl).trans ((cf c1).trans ((bs ?_).trans rfl))))))))))), r3.imp (·.1) (·.1), ?_, ?_⟩
     ·rw [hg]
      exact (bs t1).trans r1
     ·unfold F66 Xkx; (try dsimp only [Ax])
      rw [hg]
      exact (ct d0).trans ((ct d1).trans ((bs t2).trans r2))
     ·rcases r3 with ⟨rfl, _⟩ | ⟨rfl, _⟩
      ·simp
      ·exact hc
     ·rcases r3 with ⟨rfl, hβ⟩ | ⟨rfl, hβ⟩
      ·refine iff_of_false (by decide) (fun h => ?_)
       obtain ⟨_, _, _, _, _, a', e, _, h7⟩ := h
       obtain rfl : a = a' := by omega
       rw [hβ] at h7
       cases h7
      ·exact iff_of_true rfl ⟨n1, hc, o1, o2, o3, a, rfl, ha, hβ⟩
    ·have po : Lj (v[a].1, p, kd, 64, id, 0, false, false, c) = false := by
      cases ho : Lj (v[a].1, p, kd, 64, id, 0, false, false, c) with
      | false => rfl
      | true =>
       obtain ⟨_, q1, q2, _, q4, _⟩ := C1 ho
       exact absurd ⟨B4 q1, B4 q2, B4 q4⟩ hok
     have p1 := C2 (q + 4) (v[a].1, p, kd, 64, id, 0, false, false, c)
     rw [po] at p1
     have tr : F61 (q + 4) v (a : Int) (v[a].1, p, kd, 64, id, 0, false, false, c) = some ([], [], 0) := by
      unfold F61 Xbs; (try dsimp only [Az])
      exact (bs n1).trans ((cf rfl).trans ((bs p1).trans ((ct rfl).trans rfl)))
     refine ⟨([], false), (bs n1).trans ((cf rfl).trans ((bs i1).trans ((cf rfl).trans ((cf c1).trans ((ct d0).trans ((ct d1).trans ?_)))))), (bs n2).trans ((cf rfl).trans ((bs i2).trans ((cf rfl).trans ((bs w1).trans ?_)))), .inl rfl, by simp, iff_of_false (by decide) (fun h => hok ⟨h.2.2.1, h.2.2.2.1, h.2.2.2.2.1⟩)⟩
     ·rw [hg]
      refine (bs tr).trans ?_
      rw [H6]
      unfold Hm; (try dsimp only [Ax, Be])
      exact (cf rfl).trans rfl
     ·cases o1 : inB p 0 65535; · rfl
      refine (cf rfl).trans ((bs w2).trans ?_)
      cases o2 : inB kd 0 255; · rfl
      refine (cf rfl).trans ((bs w3).trans ?_)
      cases o3 : inB id 0 255; · rfl
      exact absurd ⟨o1, o2, o3⟩ hok
end Go.Proofs.YtdmepjjepogddaaGreat.Gn
end

section
namespace Go.Proofs.YtdmepjjepogddaaGreat.Gn
open Go.Rf Go.IntWalk
set_option linter.unusedVariables false
set_option linter.unusedSimpArgs false
def P6 (v : E0) (to : Int) : Nat → Nat → Bool
 | 0, _ => false
 | n + 1, a => (v[a]?).any fun s => @BEq.beq Int _ s.1 to || ((Ec v s to 2).any fun z => P6 v to n z.1.toNat)
theorem X0y {v : E0} {s : den sta} {to h : Int} (hh : 2 ≤ h) : Ec v s to h = Ec v s to 2 := by
 unfold Ec
 rw [decide_eq_false (by omega : ¬ h < 2)]
 rfl
theorem Yj (v : E0) (to : Int) : ∀ (n a : Nat), Tf v to (n + 1) a = P6 v to (n + 1) a
 | 0, a => by
  rw [Tf, P6]
  cases v[a]? with
  | none => rfl
  | some s =>
   rw [Option.any_some, Option.any_some]
   have e1 : Ec v s to ((0 + 1 : Nat) : Int) = none := rfl
   rw [e1]
   cases Ec v s to 2 with
   | none => rfl
   | some z => rfl
 | n + 1, a => by
  rw [Tf, P6]
  cases v[a]? with
  | none => rfl
  | some s =>
   rw [Option.any_some, Option.any_some, X0y (by omega)]
   cases Ec v s to 2 with
   | none => rfl
   | some z => rw [Option.any_some, Option.any_some, Yj v to n]
theorem Tv (v : E0) (to : Int) : ∀ (n a : Nat), P6 v to n a = true → P6 v to (n + 1) a = true
 | 0, a, h => by cases h
 | n + 1, a, h => by
  rw [P6] at h ⊢
  cases hv : v[a]? with
  | none => rw [hv] at h; cases h
  | some s =>
   rw [hv, Option.any_some] at h
   rw [Option.any_some]
   cases hb : @BEq.beq Int _ s.1 to with
   | true => rfl
   | false =>
    rw [hb, Bool.false_or] at h
    rw [Bool.false_or]
    cases hz : Ec v s to 2 with
    | none => rw [hz] at h; cases h
    | some z =>
     rw [hz, Option.any_some] at h
     rw [Option.any_some]
     exact Tv v to n _ h
theorem Xub {α : Type} (P Q : α → Bool) (h : ∀ a, P a = true → Q a = true) : ∀ l : List α, l.countP P ≤ l.countP Q ∧ (l.countP P = l.countP Q → ∀ a ∈ l, Q a = true → P a = true)
 | [] => ⟨Nat.le_refl _, fun _ a ha => by cases ha⟩
 | x :: l => by
  obtain ⟨h1, h2⟩ := Xub P Q h l
  rw [List.countP_cons, List.countP_cons]
  cases hp : P x with
  | true =>
   rw [h x hp]
   refine ⟨by simp; omega, fun e a ha hq => ?_⟩
   rcases List.mem_cons.1 ha with rfl | ha
   ·exact hp
   ·exact h2 (by simpa using e) a ha hq
  | false =>
   cases hq : Q x with
   | true => exact ⟨by simp; omega, fun e => by simp at e; omega⟩
   | false =>
    refine ⟨by simpa using h1, fun e a ha hqa => ?_⟩
    rcases List.mem_cons.1 ha with rfl | ha
    ·rw [hq] at hqa; cases hqa
    ·exact h2 (by simpa using e) a ha hqa
def Xky (v : E0) (to : Int) (n : Nat) : Prop := ∀ a, a < v.length → P6 v to (n + 1) a = P6 v to n a
theorem X7u {v : E0} {s : den sta} {to h : Int} {z : Int × Nat} (e : Ec v s to h = some z) : z.1.toNat < v.length := by
 obtain ⟨b, N⟩ := z
 obtain ⟨_, h2, h3⟩ := Xc5 e
 show b.toNat < _
 omega
theorem Xc6 {v : E0} {to : Int} {n : Nat} (h : Xky v to n) : ∀ m, n ≤ m → Xky v to m
 | 0, hm => by
  obtain rfl : n = 0 := by omega
  exact h
 | m + 1, hm => by
  rcases Nat.eq_or_lt_of_le hm with rfl | hlt
  ·exact h
  ·have ih := Xc6 h m (by omega)
   intro a ha
   rw [P6, P6]
   cases v[a]? with
   | none => rfl
   | some s =>
    rw [Option.any_some, Option.any_some]
    cases hz : Ec v s to 2 with
    | none => rfl
    | some z => rw [Option.any_some, Option.any_some, ih _ (X7u hz)]
theorem Um {v : E0} {to : Int} {n : Nat} (h : Xky v to n) {a : Nat} (ha : a < v.length) : ∀ d, P6 v to (n + d) a = P6 v to n a
 | 0 => rfl
 | d + 1 => by rw [← Nat.add_assoc, Xc6 h (n + d) (by omega) a ha]; exact Um h ha d
theorem Xc4 (v : E0) (to : Int) : ∀ n, n ≤ (List.range v.length).countP (P6 v to n) ∨ ∃ i, i < n ∧ Xky v to i
 | 0 => .inl (Nat.zero_le _)
 | n + 1 => by
  rcases Xc4 v to n with h | ⟨i, h1, h2⟩
  ·obtain ⟨c1, c2⟩ := Xub (P6 v to n) (P6 v to (n + 1)) (fun a => Tv v to n a) (List.range v.length)
   by_cases e : (List.range v.length).countP (P6 v to n) = (List.range v.length).countP (P6 v to (n + 1))
   ·refine .inr ⟨n, by omega, fun a ha => ?_⟩
    have := c2 e a (List.mem_range.2 ha)
    cases h1 : P6 v to (n + 1) a with
    | true => exact (this h1).symm
    | false =>
     cases h2 : P6 v to n a with
     | false => rfl
     | true => rw [Tv v to n a h2] at h1; cases h1
   ·exact .inl (by omega)
  ·exact .inr ⟨i, by omega, h2⟩
theorem Xto {v : E0} {to : Int} (hl : v.length ≤ 5) {a : Nat} (ha : a < v.length) : P6 v to 64 a = P6 v to (v.length + 1) a := by
 rcases Xc4 v to (v.length + 1) with h | ⟨i, h1, h2⟩
 ·have := List.countP_le_length (p := P6 v to (v.length + 1)) (l := List.range v.length)
  rw [List.length_range] at this
  omega
 ·have e1 := Um h2 ha (64 - i)
  have e2 := Um h2 ha (v.length + 1 - i)
  rw [show i + (64 - i) = 64 by omega] at e1
  rw [show i + (v.length + 1 - i) = v.length + 1 by omega] at e2
  rw [e1, e2]
theorem Xvr (q : Nat) (v : E0) (w p : Int) (hv : ∀ s ∈ v, StaOk (q + 4) s) (hvl : v.length ≤ 5) (hp : inB p 0 65535 = true) (hk : 1048576 < q + 4) : ∀ (j n i a : Nat) (room : Int), i + j = v.length + 1 → j < n → a < v.length → 1 ≤ room → ∃ r : Int, Hp (q + 4) v w p n room (a : Int) (i : Int) = some r ∧ 0 ≤ r ∧ (r > 0 ↔ P6 v p j a = true)
 | _, 0, _, _, _, _, h, _, _ => by omega
 | 0, n + 1, i, a, room, hi, _, ha, hr => by
  rw [Hp]
  unfold G5; (try dsimp only [Ax])
  rw [i64_in ((v.length : Int) + 1) (by omega)]
  exact ⟨0, (cf (decide_eq_false (by omega))).trans rfl, (by omega), iff_of_false (by omega) (by rw [P6]; decide)⟩
 | j + 1, n + 1, i, a, room, hi, hn, ha, hr => by
  have sk := hv _ (List.getElem_mem ha)
  have d0 : decide ((0 : Int) ≤ (a : Int)) = true := decide_eq_true (by omega)
  have d1 : decide ((a : Int) < (v.length : Int)) = true := decide_eq_true (by omega)
  have n0 : decide ((a : Int) < 0) = false := decide_eq_false (by omega)
  rw [Hp]
  unfold G5; (try dsimp only [Ax])
  rw [i64_in ((v.length : Int) + 1) (by omega), Ap v a ha, Gv i (by omega), P6, List.getElem?_eq_getElem ha, Option.any_some]
  have di : decide ((i : Int) < (v.length : Int) + 1) = true := decide_eq_true (by omega)
  cases hb : @BEq.beq Int _ v[a].1 p with
  | true => exact ⟨room, (ct di).trans ((cf n0).trans ((ct d0).trans ((ct d1).trans ((ct rfl).trans rfl)))), (by omega), iff_of_true (by omega) rfl⟩
  | false =>
   rw [Bool.false_or]
   have fi' := Xf9 (q + 4) v[a].2 p sk.len sk.ok
   have fm := N3 p 17 (l := v[a].2.reverse)
   have hh : Ec v v[a] p 2 = cond (Rt.B6 p 17 v[a].2.reverse).2 (cond (decide (fi (Rt.B6 p 17 v[a].2.reverse).1.2.2.1 v 0 ≥ 0)) (some (fi (Rt.B6 p 17 v[a].2.reverse).1.2.2.1 v 0, Int.toNat (Rt.B6 p 17 v[a].2.reverse).1.2.2.2)) none) none := rfl
   rw [hh]
   generalize Rt.B6 p 17 v[a].2.reverse = r at fi' fm
   obtain ⟨r, fd⟩ := r
   cases fd with
   | false => exact ⟨0, (ct di).trans ((cf n0).trans ((ct d0).trans ((ct d1).trans ((cf rfl).trans ((ct d0).trans ((ct d1).trans ((bs fi').trans ((ct rfl).trans rfl)))))))), (by omega), iff_of_false (by omega) (by show ¬ (false = true); decide)⟩
   | true =>
    have hm := List.mem_reverse.1 (fm rfl)
    obtain ⟨r0, r1, gw, mtu⟩ := r
    have hmtu : @LE.le Int _ 1 mtu ∧ @LE.le Int _ mtu 48 := A7 (Kg (sk.ok _ hm)).2.2.2
    have f4 := Xbb (q + 4) v gw (by omega) hk
    have f5 := Xb4 gw v 0
    show ∃ r : Int, _ ∧ 0 ≤ r ∧ (r > 0 ↔ (cond (decide (fi gw v 0 ≥ 0)) (some (fi gw v 0, Int.toNat mtu)) none).any (fun z => P6 v p j z.1.toNat) = true)
    generalize fi gw v 0 = b at f4 f5 ⊢
    by_cases cb : b ≥ 0
    ·obtain ⟨b, rfl⟩ : ∃ i : Nat, b = (i : Int) := ⟨b.toNat, by omega⟩
     obtain ⟨z, z1, z2⟩ := Xvr q v w p hv hvl hp hk j n (i + 1) b (if mtu < room then mtu else room) (by omega) (by omega) (by omega) (by split <;> omega)
     rw [decide_eq_true cb, cond_true, Option.any_some]
     exact ⟨z, (ct di).trans ((cf n0).trans ((ct d0).trans ((ct d1).trans ((cf rfl).trans ((ct d0).trans ((ct d1).trans ((bs fi').trans ((cf rfl).trans ((bs f4).trans z1))))))))), z2⟩
    ·rw [decide_eq_false cb]
     refine ⟨0, (ct di).trans ((cf n0).trans ((ct d0).trans ((ct d1).trans ((cf rfl).trans ((ct d0).trans ((ct d1).trans ((bs fi').trans ((cf rfl).trans ((bs f4).trans ?_))))))))), (by omega), iff_of_false (by omega) (by show ¬ (false = true); decide)⟩
     obtain ⟨n, rfl⟩ : ∃ n', n = n' + 1 := ⟨n - 1, by omega⟩
     show Hp (q + 4) v w p (n + 1) _ b ((i + 1 : Nat) : Int) = some 0
     rw [Hp]
     unfold G5; (try dsimp only [Ax])
     rw [i64_in ((v.length : Int) + 1) (by omega)]
     by_cases c : ((i + 1 : Nat) : Int) < (v.length : Int) + 1
     ·exact (ct (decide_eq_true c)).trans ((ct (decide_eq_true (by omega))).trans rfl)
     ·exact (cf (decide_eq_false c)).trans rfl
theorem Xxs (q : Nat) (v : E0) (w p : Int) (hl : v.length ≤ 1048576) (hs : Ub v ≤ 1048576) (hk : 1048576 < q + 4) : ∃ r : Int, F25 (q + 4) v w p = some r ∧ 0 ≤ r ∧ (r > 0 ↔ F59 (q + 4) v = some true ∧ inB p 0 65535 = true ∧ ∃ a : Nat, w = (a : Int) ∧ a < v.length ∧ Tf v p 64 a = true) := by
 obtain ⟨b, n1, n2, n3⟩ := Xfk q v hl hs hk
 have i2 := Cl (q + 4) w 0 (IntKind.i64.wrap ((v.length : Int) - 1))
 have wl1 : IntKind.i64.wrap ((v.length : Int) - 1) = (v.length : Int) - 1 := i64_in _ (by omega)
 have w1 := Eh (q + 4) p
 unfold F25 Xk0; (try dsimp only)
 cases b with
 | false => exact ⟨0, (bs n2).trans ((ct rfl).trans rfl), (by omega), iff_of_false (by omega) (fun h => by have h1 := h.1; rw [n1] at h1; cases h1)⟩
 | true =>
  cases hw : inB w 0 (IntKind.i64.wrap ((v.length : Int) - 1)) with
  | false =>
   rw [hw] at i2
   refine ⟨0, (bs n2).trans ((cf rfl).trans ((bs i2).trans ((ct rfl).trans rfl))), (by omega), iff_of_false (by omega) (fun h => ?_)⟩
   obtain ⟨_, _, a, e, ha, _⟩ := h
   rw [wl1, e, B4 (show (0 : Int) ≤ (a : Int) ∧ (a : Int) ≤ (v.length : Int) - 1 by omega)] at hw
   cases hw
  | true =>
   rw [hw] at i2
   rw [wl1] at hw
   have hw := A7 hw
   obtain ⟨a, rfl⟩ : ∃ i : Nat, w = (i : Int) := ⟨w.toNat, by omega⟩
   have ha : a < v.length := by omega
   cases hp : inB p 0 65535 with
   | false =>
    rw [hp] at w1
    exact ⟨0, (bs n2).trans ((cf rfl).trans ((bs i2).trans ((cf rfl).trans ((bs w1).trans ((ct rfl).trans rfl))))), (by omega), iff_of_false (by omega) (fun h => by have h1 := h.2.1; cases h1)⟩
   | true =>
    rw [hp] at w1
    obtain ⟨h1, h2⟩ := n3 rfl
    obtain ⟨r, r1, r2⟩ := Xvr q v (a : Int) p h1 h2 hp hk (v.length + 1) (q + 4) 0 a 48 (by omega) (by omega) ha (by omega)
    refine ⟨r, (bs n2).trans ((cf rfl).trans ((bs i2).trans ((cf rfl).trans ((bs w1).trans ((cf rfl).trans r1))))), r2.1, r2.2.trans ⟨fun h => ⟨n1, rfl, a, rfl, ha, ?_⟩, fun h => ?_⟩⟩
    ·rw [Yj v p 63, Xto h2 ha]; exact h
    ·obtain ⟨_, _, a', e, _, h7⟩ := h
     obtain rfl : a = a' := by omega
     rw [Yj v p 63, Xto h2 ha] at h7
     exact h7
end Go.Proofs.YtdmepjjepogddaaGreat.Gn
end

section
namespace Go.Proofs.YtdmepjjepogddaaGreat.Gn
open Go.Rf Go.IntWalk
set_option linter.unusedVariables false
set_option linter.unusedSimpArgs false
def Sm {β : Type} (o : Option β) (P : β → Prop) : Prop := ∃ r, o = some r ∧ P r
theorem Sm.bind {α β : Type} {o : Option α} {f : α → Option β} {P : α → Prop} {Q : β → Prop} (h : Sm o P) (g : ∀ r, P r → Sm (f r) Q) : Sm (o.bind f) Q := by
 obtain ⟨r, e, p⟩ := h
 rw [e]
 exact g r p
theorem Sm.cond {β : Type} {c : Bool} {a b : Option β} {Q : β → Prop} (h1 : c = true → Sm a Q) (h2 : c = false → Sm b Q) : Sm (cond c a b) Q := by
 cases c
 ·exact h2 rfl
 ·exact h1 rfl
theorem Sm.ct {β : Type} {c : Bool} {a b : Option β} {Q : β → Prop} (hc : c = true) (h : Sm a Q) : Sm (_root_.cond c a b) Q := by rw [hc]; exact h
theorem Sm.cf {β : Type} {c : Bool} {a b : Option β} {Q : β → Prop} (hc : c = false) (h : Sm b Q) : Sm (_root_.cond c a b) Q := by rw [hc]; exact h
theorem Z4 {t : Ty} {l : List (den t)} {i : Int} (h0 : 0 ≤ i) (h1 : i < (l.length : Nat)) : Ad l i ∈ l := by
 obtain ⟨j, rfl⟩ := Int.eq_ofNat_of_zero_le h0
 rw [Ap l j (by omega)]
 exact List.getElem_mem _
theorem Xmd (x y : Int) (hx : 0 ≤ x ∧ x < 2 ^ 50) (hy : 0 ≤ y ∧ y < 2 ^ 50) : 0 ≤ Co .xor .i64 x y ∧ Co .xor .i64 x y < 2 ^ 50 := by
 obtain ⟨a, rfl⟩ := Int.eq_ofNat_of_zero_le hx.1
 obtain ⟨b, rfl⟩ := Int.eq_ofNat_of_zero_le hy.1
 have ha : a < 2 ^ 50 := by omega
 have hb : b < 2 ^ 50 := by omega
 have h1 : (BitVec.ofInt 64 (a : Int) ^^^ BitVec.ofInt 64 (b : Int)).toNat = a ^^^ b := by
  rw [BitVec.toNat_xor]
  simp only [BitVec.ofInt_natCast, BitVec.toNat_ofNat]
  rw [Nat.mod_eq_of_lt (by omega), Nat.mod_eq_of_lt (by omega)]
 have h2 : a ^^^ b < 2 ^ 50 := Nat.xor_lt_two_pow ha hb
 have h3 : Co .xor .i64 (a : Int) (b : Int) = ((a ^^^ b : Nat) : Int) := by
  show IntKind.i64.wrap (((BitVec.ofInt 64 (a : Int) ^^^ BitVec.ofInt 64 (b : Int)).toNat : Nat) : Int) = _
  rw [h1, i64_in _ (by omega)]
 rw [h3]
 omega
theorem Yh (k : Nat) (b : A4) (hb : BOk b) (hl : b.length ≤ 2000) (p n : Int) (hp : 0 ≤ p) (hp2 : p < 2 ^ 30) : ∃ r, H7 k (b, p) n = some (r, (b, p + 1)) ∧ 0 ≤ r ∧ (1 ≤ n → r < n) ∧ (n < 1 → r = 0) := by
 unfold H7 Xkf; (try dsimp only [Ax, u_0])
 rw [i64_in (p + 1) (by omega), show p + 1 - 1 = p by omega, i64_in p (by omega)]
 by_cases hn : n < 1
 ·rw [decide_eq_true hn]; exact ⟨0, rfl, by omega, by omega, fun _ => rfl⟩
 ·rw [decide_eq_false hn, cond_false]
  by_cases h0 : b.length = 0
  ·have : (((b.length : Nat) : Int) == 0) = true := by simp [h0]
   rw [this]; exact ⟨0, rfl, by omega, by omega, fun _ => rfl⟩
  ·have : (((b.length : Nat) : Int) == 0) = false := by simp [h0]
   rw [this, cond_false]
   have hpos : 0 < ((b.length : Nat) : Int) := by omega
   by_cases hlt : p < ((b.length : Nat) : Int)
   ·rw [decide_eq_true hlt, decide_eq_true hp, decide_eq_false (by omega : ¬ n = 0)]
    simp only [cond_true, cond_false]
    have hm := hb _ (Z4 hp hlt)
    rw [i64_in (Ad b p) ⟨Int.le_trans (by decide) hm.1, Int.le_trans hm.2 (by decide)⟩]
    exact ⟨_, rfl, Int.tmod_nonneg _ hm.1, fun h => Int.tmod_lt_of_pos _ (by omega), by omega⟩
   ·rw [decide_eq_false hlt, decide_eq_false (by omega : ¬ ((b.length : Nat) : Int) = 0)]
    simp only [cond_false]
    rw [i64_in (p * 7) (by omega), i64_in (p * 7 + 3) (by omega)]
    have m1 : 0 ≤ p.tmod ((b.length : Nat) : Int) := Int.tmod_nonneg _ hp
    have m2 : p.tmod ((b.length : Nat) : Int) < ((b.length : Nat) : Int) := Int.tmod_lt_of_pos _ hpos
    have m3 : 0 ≤ (p * 7 + 3).tmod ((b.length : Nat) : Int) := Int.tmod_nonneg _ (by omega)
    have m4 : (p * 7 + 3).tmod ((b.length : Nat) : Int) < ((b.length : Nat) : Int) := Int.tmod_lt_of_pos _ hpos
    have m5 : 0 ≤ p.tdiv ((b.length : Nat) : Int) := Int.tdiv_nonneg hp (by omega)
    have m6 : p.tdiv ((b.length : Nat) : Int) ≤ p := Int.tdiv_le_self _ hp
    rw [decide_eq_true m1, decide_eq_true m2, decide_eq_true m3, decide_eq_true m4, decide_eq_false (by omega : ¬ n = 0)]
    simp only [cond_true, cond_false]
    have g1 := hb _ (Z4 m1 m2)
    have g2 := hb _ (Z4 m3 m4)
    obtain ⟨x1, hx1⟩ : ∃ x : Int, x = Ad b (p.tmod ((b.length : Nat) : Int)) := ⟨_, rfl⟩
    obtain ⟨x2, hx2⟩ : ∃ x : Int, x = Ad b ((p * 7 + 3).tmod ((b.length : Nat) : Int)) := ⟨_, rfl⟩
    rw [← hx1] at g1 ⊢
    rw [← hx2] at g2 ⊢
    generalize p.tdiv ((b.length : Nat) : Int) = q at *
    have g1 : 0 ≤ x1 ∧ x1 ≤ 255 := g1
    have g2 : 0 ≤ x2 ∧ x2 ≤ 255 := g2
    rw [i64_in x1 (by omega), i64_in x2 (by omega), i64_in (x1 * 131) (by omega), i64_in (x2 * 1117) (by omega), i64_in (x1 * 131 + x2 * 1117) (by omega), i64_in (p * 29) (by omega), i64_in (x1 * 131 + x2 * 1117 + p * 29) (by omega),
     i64_in q (by omega), i64_in (q * 53) (by omega), i64_in (x1 * 131 + x2 * 1117 + p * 29 + q * 53) (by omega)]
    generalize hX : x1 * 131 + x2 * 1117 + p * 29 + q * 53 = X
    have hX1 : 0 ≤ X ∧ X < 2 ^ 50 := by omega
    have d1 : 0 ≤ X.tdiv 64 := Int.tdiv_nonneg hX1.1 (by omega)
    have d2 : X.tdiv 64 ≤ X := Int.tdiv_le_self _ hX1.1
    rw [i64_in (X.tdiv 64) (by omega)]
    have hxo := Xmd X (X.tdiv 64) hX1 (by omega)
    exact ⟨_, rfl, Int.tmod_nonneg _ hxo.1, fun h => Int.tmod_lt_of_pos _ (by omega), by omega⟩
theorem pk {β : Type} (k : Nat) {b : A4} (hb : BOk b) (hl : b.length ≤ 2000) {p n : Int} (hp : 0 ≤ p) (hp2 : p < 1000000) (hn : 1 ≤ n) {f : Int × A4 × Int → Option β} {Q : β → Prop}
  (h : ∀ x : Int, 0 ≤ x → x < n → Sm (f (x, b, p + 1)) Q) : Sm ((H7 k (b, p) n).bind f) Q := by
 obtain ⟨r, e, h0, h1, _⟩ := Yh k b hb hl p n hp (by omega)
 rw [e]
 exact h r h0 (h1 hn)
theorem Xzt (k : Nat) (b : A4) (hb : BOk b) : ∃ b', F69 k b = some (b', 0) ∧ BOk b' ∧ b'.length ≤ 2000 := by
 unfold F69 Xj4; (try dsimp only)
 by_cases h : ((b.length : Nat) : Int) > 2000
 ·rw [decide_eq_true h, cond_true]
  rw [decide_eq_true (by omega : (2000 : Int) ≤ ((b.length : Nat) : Int))]
  exact ⟨_, rfl, fun x hx => hb x (List.mem_of_mem_take hx), by simp; omega⟩
 ·rw [decide_eq_false h, cond_false]
  exact ⟨_, rfl, hb, by omega⟩
theorem Xk7 (k : Nat) (a0 : A4) (a1 a2 : Int) {b : A4} (hb : BOk b) (hl : b.length ≤ 2000) : ∀ (n c : Nat) (p : Int) (m : A4), c < n → c ≤ 100 → 0 ≤ p → p + 2 * c < 999900 → m.length + c ≤ 1000 →
  Sm (Fj k (a0, a1) a2 n (c : Int) (b, p) m) fun r => r.1.length = m.length + c ∧ r.2 = (b, p + 2 * c)
 | 0, c, p, m, h, _, _, _, _ => by omega
 | n + 1, 0, p, m, h, hc, hp, hp2, hm => by
  rw [Fj]
  unfold Hi; (try dsimp only [Be])
  refine Sm.cf (decide_eq_false (by omega)) ⟨_, rfl, by simp, ?_⟩
  simp
 | n + 1, c + 1, p, m, h, hc, hp, hp2, hm => by
  rw [Fj]
  unfold Hi; (try dsimp only [Be])
  have e : IntKind.i64.wrap (((c + 1 : Nat) : Int) - 1) = (c : Int) := by rw [i64_in _ (by omega)]; omega
  rw [e]
  have Pa : ∀ y : den (.int .u8), Sm (Fj k (a0, a1) a2 n (c : Int) (b, p + 1 + 1) (m ++ [y])) fun r => r.1.length = m.length + (c + 1) ∧ r.2 = (b, p + 2 * ((c + 1 : Nat) : Int)) := fun y => by
   obtain ⟨r, e1, e2, e3⟩ := Xk7 k a0 a1 a2 hb hl n c (p + 1 + 1) (m ++ [y]) (by omega) (by omega) (by omega) (by omega) (by
    simp only [List.length_append, List.length_singleton]
    omega)
   refine ⟨r, e1, by rw [e2]; simp only [List.length_append, List.length_singleton]; omega, ?_⟩
   rw [e3]
   simp only [Prod.mk.injEq, true_and]
   omega
  refine Sm.ct (decide_eq_true (by omega)) ?_
  refine pk k hb hl (by omega) (by omega) (by omega) fun x1 _ _ => ?_
  dsimp only
  refine Sm.cond (fun _ => ?_) (fun _ => ?_)
  ·refine pk k hb hl (by omega) (by omega) (by omega) fun x2 _ _ => ?_
   dsimp only
   exact Sm.ct (decide_eq_true (by simp only [List.length_singleton]; omega)) (Pa _)
  ·refine pk k hb hl (by omega) (by omega) (by omega) fun x2 _ _ => ?_
   dsimp only
   exact Sm.ct (decide_eq_true (by simp only [List.length_singleton]; omega)) (Pa _)
theorem odk {β : Type} (k : Nat) {b : A4} (hb : BOk b) (hl : b.length ≤ 2000) {p n : Int} (hp : 0 ≤ p) (hp2 : p < 1000000) {f : Bool × A4 × Int → Option β} {Q : β → Prop}
  (h : ∀ (x : Bool) (p' : Int), p ≤ p' → p' ≤ p + 1 → Sm (f (x, b, p')) Q) : Sm ((Yp k (b, p) n).bind f) Q := by
 unfold Yp Zo; (try dsimp only)
 by_cases hn : n > 0
 ·rw [decide_eq_true hn, cond_true]
  obtain ⟨r, e, _⟩ := Yh k b hb hl p n hp (by omega)
  rw [e]
  exact h _ (p + 1) (by omega) (by omega)
 ·rw [decide_eq_false hn]
  exact h _ _ (by omega) (by omega)
end Go.Proofs.YtdmepjjepogddaaGreat.Gn
end

section
namespace Go.Proofs.YtdmepjjepogddaaGreat.Gn
open Go.Rf Go.IntWalk
set_option linter.unusedVariables false
set_option linter.unusedSimpArgs false
theorem Xs5 (q : Nat) (v : rtL) (r : den Ci) (hl : v.length ≤ 1000) (hk : 1048576 < q + 4) : ∀ (n j : Nat) (b : Bool) (m : rtL), j ≤ v.length → v.length - j < n → m.length ≤ 2 * j → Sm (Et (q + 4) v r n b (j : Int) m) fun z => z.1.length ≤ 8
 | 0, j, b, m, _, h, _ => by omega
 | n + 1, j, b, m, hj, h, hm => by
  rw [Et]
  unfold Ki; (try dsimp only [Ax, Be, C7])
  obtain ⟨ok, o1, _, _⟩ := X3n q v (by omega) hk
  have o2 := Xas (q + 4) r
  rcases Nat.lt_or_ge j v.length with hlt | hge
  ·have d1 : decide ((j : Int) < (v.length : Int)) = true := decide_eq_true (by omega)
   have d0 : decide ((0 : Int) ≤ (j : Int)) = true := decide_eq_true (by omega)
   have nx := fun (b : Bool) (m : rtL) (hm : m.length ≤ 2 * (j + 1)) => Xs5 q v r hl hk n (j + 1) b m hlt (by omega) hm
   have j2 : Sm (Fq (q + 4) v r (Et (q + 4) v r n) some m (j : Int)) fun z => z.1.length ≤ 8 := by
    unfold Fq; (try dsimp only [Be, C7])
    rw [Gv j (by omega)]
    exact Sm.ct (decide_eq_true (by simp; omega)) (nx _ _ (by simp; omega))
   have j1 : Sm (Fs (q + 4) v r (Et (q + 4) v r n) some m (j : Int)) fun z => z.1.length ≤ 8 := by
    unfold Fs; (try dsimp only [Be, C7])
    rw [Gv j (by omega)]
    refine Sm.ct (decide_eq_true (by simp; omega)) (Sm.cond (fun _ => j2) (fun _ => Sm.cond (fun _ => j2) (fun _ => nx _ _ (by simp; omega))))
   have j3 : ∀ b : Bool, Sm (D3 (q + 4) v r (Et (q + 4) v r n) some (j : Int) m b) fun z => z.1.length ≤ 8 := fun b => by
    unfold D3; (try dsimp only [Be])
    rw [Gv j (by omega)]
    refine Sm.cond (fun _ => Sm.ct (decide_eq_true (by simp; omega)) (nx _ _ (by simp; omega))) (fun _ => Sm.cond (fun _ => Sm.ct (decide_eq_true (by simp; omega)) (nx _ _ (by simp; omega))) (fun _ => nx _ _ (by omega)))
   exact Sm.ct d1 (Sm.ct d0 (Sm.ct d1 (Sm.cond (fun _ => Sm.cond (fun _ => j1) (fun _ => Sm.cond (fun _ => Sm.cond (fun _ => j1) (fun _ => j3 _)) (fun _ => j3 _))) (fun _ => j3 _))))
  ·refine Sm.cf (decide_eq_false (by omega)) (Sm.cond (fun _ => Sm.ct (decide_eq_true (by simp; omega)) ?_) (fun _ => ?_))
   ·rw [o1, Option.bind_some]
    refine Sm.cond (fun _ => ⟨_, rfl, by simp⟩) (fun _ => ?_)
    rw [o2, Option.bind_some]
    exact Sm.cond (fun _ => ⟨_, rfl, by simp⟩) (fun _ => Sm.cond (fun _ => ⟨_, rfl, by simp⟩) (fun c => ⟨_, rfl, by have := of_decide_eq_false c; dsimp only; omega⟩))
   ·rw [o1, Option.bind_some]
    refine Sm.cond (fun _ => ⟨_, rfl, by simp⟩) (fun _ => ?_)
    rw [o2, Option.bind_some]
    exact Sm.cond (fun _ => ⟨_, rfl, by simp⟩) (fun _ => Sm.cond (fun _ => ⟨_, rfl, by simp⟩) (fun c => ⟨_, rfl, by have := of_decide_eq_false c; dsimp only; omega⟩))
theorem Xjq (q : Nat) (v : rtL) (r : den Ci) (hl : v.length ≤ 1000) (hk : 1048576 < q + 4) : Sm (Yt (q + 4) v r) fun z => z.1.length ≤ 8 :=
 Xs5 q v r hl hk (q + 4) 0 false [] (Nat.zero_le _) (by omega) (by simp)
theorem Wc (q : Nat) (v : A4 × Int) (w : Int) {b : A4} (hb : BOk b) (hl : b.length ≤ 2000) (hk : 1048576 < q + 4) (many kk : Nat) (hm : many ≤ 5) (hkk : kk ≤ 5) (out : E0) : ∀ (n j : Nat) (p : Int) (s : den sta), j ≤ many → many - j < n → 0 ≤ p → p + 4 * (many - j : Nat) ≤ 900000 → s.2.length ≤ 8 →
  Sm (Jd (q + 4) v w n (many : Int) (kk : Int) (j : Int) (b, p) out s) fun y => y.1 = (many : Int) ∧ y.2.1 = (kk : Int) ∧ (∃ p' : Int, y.2.2.2.1 = (b, p') ∧ p ≤ p' ∧ p' ≤ p + 4 * (many - j : Nat)) ∧ y.2.2.2.2.1 = out ∧ y.2.2.2.2.2.2.length ≤ 8
 | 0, j, p, s, _, h, _, _, _ => by omega
 | n + 1, j, p, s, hj, h, h0, hp, hs => by
  rw [Jd]
  unfold Og; (try dsimp only)
  rcases Nat.lt_or_ge j many with hlt | hge
  ·have nx := fun (p' : Int) (s' : den sta) (h1 : p ≤ p') (h2 : p' ≤ p + 4) (hs : s'.2.length ≤ 8) => Wc q v w hb hl hk many kk hm hkk out n (j + 1) p' s' hlt (by omega) (by omega) (by omega) hs
   have Pa := fun (p' : Int) (s' : den sta) (h1 : p ≤ p') (h2 : p' ≤ p + 4) (hs : s'.2.length ≤ 8) => (show Sm (Jd (q + 4) v w n (many : Int) (kk : Int) ((j + 1 : Nat) : Int) (b, p') out s') fun y => y.1 = (many : Int) ∧ y.2.1 = (kk : Int) ∧ (∃ p' : Int, y.2.2.2.1 = (b, p') ∧ p ≤ p' ∧ p' ≤ p + 4 * (many - j : Nat)) ∧ y.2.2.2.2.1 = out ∧ y.2.2.2.2.2.2.length ≤ 8 from by
    obtain ⟨y, e, e1, e2, ⟨p2, e3, e4, e5⟩, e6, e7⟩ := nx p' s' h1 h2 hs
    exact ⟨y, e, e1, e2, ⟨p2, e3, by omega, by omega⟩, e6, e7⟩)
   have rp := fun (r : den Ci) => Xjq q s.2 r (by omega) hk
   have w1 : IntKind.i64.wrap ((many : Int) + 1) = (many : Int) + 1 := i64_in _ (by omega)
   rw [Gv j (by omega)]
   have j1 : ∀ (x : Int), Sm (G8 (q + 4) v w (Jd (q + 4) v w n) (fun y2 => some y2) (x, (b, p + 1 + 1)) (many : Int) s (j : Int) (kk : Int) out) fun y => y.1 = (many : Int) ∧ y.2.1 = (kk : Int) ∧ (∃ p' : Int, y.2.2.2.1 = (b, p') ∧ p ≤ p' ∧ p' ≤ p + 4 * (many - j : Nat)) ∧ y.2.2.2.2.1 = out ∧ y.2.2.2.2.2.2.length ≤ 8 := fun x => by
    unfold G8; (try dsimp only)
    rw [w1, Gv j (by omega)]
    exact pk _ hb hl (by omega) (by omega) (by omega) fun _ _ _ => pk _ hb hl (by omega) (by omega) (by omega) fun _ _ _ => (rp _).bind fun z hz => Pa _ _ (by omega) (by omega) hz
   refine Sm.ct (decide_eq_true (by omega)) (Sm.cond (fun _ => ?_) (fun _ => Pa p s (by omega) (by omega) hs))
   refine pk _ hb hl (by omega) (by omega) (by omega) fun x _ _ => ?_
   refine Sm.cond (fun _ => Sm.cond (fun _ => ?_) (fun _ => ?_)) (fun _ => Pa _ s (by omega) (by omega) hs)
   ·refine pk _ hb hl (by omega) (by omega) (by omega) fun y _ _ => Sm.cond (fun _ => j1 y) (fun _ => ?_)
    exact pk _ hb hl (by omega) (by omega) (by omega) fun _ _ _ => (rp _).bind fun z hz => Pa _ _ (by omega) (by omega) hz
   ·refine pk _ hb hl (by omega) (by omega) (by omega) fun y _ _ => Sm.cond (fun _ => j1 y) (fun _ => ?_)
    exact pk _ hb hl (by omega) (by omega) (by omega) fun _ _ _ => (rp _).bind fun z hz => Pa _ _ (by omega) (by omega) hz
  ·exact Sm.cf (decide_eq_false (by omega)) ⟨_, rfl, rfl, rfl, ⟨p, rfl, by omega, by omega⟩, rfl, hs⟩
def Xqj (l : E0) : Prop := l.length ≤ 6 ∧ ∀ s ∈ l, s.2.length ≤ 8
theorem Vz (q : Nat) (v : A4 × Int) (w : Int) {b : A4} (hb : BOk b) (hl : b.length ≤ 2000) (hk : 1048576 < q + 4) (many : Nat) (h1 : 1 ≤ many) (hm : many ≤ 5) : ∀ (n kk : Nat) (p : Int) (out : E0), kk ≤ many → many - kk < n → 0 ≤ p → p + 30 * (many - kk : Nat) ≤ 800000 → out.length = kk → (∀ s ∈ out, s.2.length ≤ 8) →
  Sm (I9 (q + 4) v w n (many : Int) (kk : Int) (b, p) out) fun z => Xqj z.1 ∧ ∃ p' : Int, z.2 = (b, p') ∧ 0 ≤ p' ∧ p' ≤ p + 30 * (many - kk : Nat) + 1
 | 0, kk, p, out, _, h, _, _, _, _ => by omega
 | n + 1, kk, p, out, hj, h, h0, hp, ho, hs => by
  rw [I9]
  rcases Nat.lt_or_ge kk many with hlt | hge
  ·refine Sm.ct (decide_eq_true (by omega)) ?_
   refine (Wc q v w hb hl hk many kk hm (by omega) out (q + 4) 0 p (IntKind.i64.wrap (10 + (kk : Int)), []) (Nat.zero_le _) (by omega) h0 (by omega) (by simp)).bind fun y hy => ?_
   obtain ⟨y1, y2, y3, y4, y5, y6⟩ := y
   obtain ⟨e1, e2, ⟨p1, e3, e4, e5⟩, e6, e7⟩ := hy
   dsimp only at e1 e2 e3 e6 e7
   subst e1 e2 e3 e6
   dsimp only
   rw [Gv kk (by omega)]
   have nx := fun (p' : Int) (s : den sta) (h1' : p ≤ p') (h2 : p' ≤ p + 22) (hs' : s.2.length ≤ 8) => (show Sm (I9 (q + 4) v w n (many : Int) ((kk + 1 : Nat) : Int) (b, p') (y5 ++ [s])) fun z => Xqj z.1 ∧ ∃ p'' : Int, z.2 = (b, p'') ∧ 0 ≤ p'' ∧ p'' ≤ p + 30 * (many - kk : Nat) + 1 from by
    obtain ⟨z, a1, a2, p2, a3, a4, a5⟩ := Vz q v w hb hl hk many h1 hm n (kk + 1) p' (y5 ++ [s]) hlt (by omega) (by omega) (by omega) (by simp [ho]) (fun x hx => (List.mem_append.1 hx).elim (hs x) (fun hx => by rw [List.mem_singleton.1 hx]; exact hs'))
    exact ⟨z, a1, a2, p2, a3, a4, by omega⟩)
   refine pk _ hb hl (by omega) (by omega) (by omega) fun x _ _ => Sm.cond (fun _ => ?_) (fun _ => ?_)
   ·refine pk _ hb hl (by omega) (by omega) (by omega) fun x2 _ _ => (Xjq q y6.2 _ (by omega) hk).bind fun z hz => ?_
    exact Sm.ct (decide_eq_true (by rw [List.length_singleton]; omega)) (nx _ (y6.1, z.1) (by omega) (by omega) hz)
   ·exact Sm.ct (decide_eq_true (by rw [List.length_singleton]; omega)) (nx _ y6 (by omega) (by omega) e7)
  ·refine Sm.cf (decide_eq_false (by omega)) ?_
   refine odk _ hb hl h0 (by omega) fun x p' e1 e2 => ?_
   have h00 : 0 < out.length := by omega
   have g0 : Ad out 0 = out[0] := Ap out 0 h00
   dsimp only
   refine Sm.cond (fun _ => Sm.ct (decide_eq_true (by omega)) (Sm.ct (decide_eq_true (by rw [List.length_singleton]; omega)) ⟨_, rfl, ⟨by simp; omega, fun s hs' => ?_⟩, p', rfl, by omega, by omega⟩)) (fun _ => ⟨_, rfl, ⟨by dsimp only; omega, hs⟩, p', rfl, by omega, by omega⟩)
   rcases List.mem_append.1 hs' with h' | h'
   ·exact hs s h'
   ·rw [List.mem_singleton.1 h', g0]; exact hs _ (List.getElem_mem h00)
theorem Xbx : ∀ {l : E0} {n : Nat}, l.length ≤ n → (∀ s ∈ l, s.2.length ≤ 8) → Ub l ≤ 8 * n
 | [], n, _, _ => by simp [Ub]
 | a :: l, n, h, hs => by
  rw [List.length_cons] at h
  have h1 := hs a (by simp)
  have h2 := Xbx (l := l) (n := n - 1) (by omega) (fun s hs' => hs s (by simp [hs']))
  simp only [Ub]
  omega
theorem X4t (q : Nat) (w : Int) {b : A4} (hb : BOk b) (hl : b.length ≤ 2000) (hk : 1048576 < q + 4) {p : Int} (hp : 0 ≤ p ∧ p ≤ 1000) : Sm (F70 (q + 4) (b, p) w) fun z => Xqj z.1 ∧ ∃ p' : Int, z.2 = (b, p') ∧ 0 ≤ p' ∧ p' ≤ p + 200 := by
 unfold F70 Xje; (try dsimp only)
 refine pk _ hb hl (by omega) (by omega) (by omega) fun x hx1 hx2 => ?_
 obtain ⟨c, rfl⟩ := Int.eq_ofNat_of_zero_le hx1
 rw [show IntKind.i64.wrap (1 + (c : Int)) = ((c + 1 : Nat) : Int) by rw [i64_in _ (by omega)]; omega]
 obtain ⟨z, a1, a2, p2, a3, a4, a5⟩ := Vz q (b, p) w hb hl hk (c + 1) (by omega) (by omega) (q + 4) 0 (p + 1) [] (Nat.zero_le _) (by omega) (by omega) (by omega) rfl (fun s hs => by cases hs)
 exact ⟨z, a1, a2, p2, a3, a4, by omega⟩
end Go.Proofs.YtdmepjjepogddaaGreat.Gn
end

section
namespace Go.Proofs.YtdmepjjepogddaaGreat.Gn
open Go.Rf Go.IntWalk
set_option linter.unusedVariables false
set_option linter.unusedSimpArgs false
abbrev maL : Type := List (den Bd)
abbrev poL : Type := List (den Ay)
end Go.Proofs.YtdmepjjepogddaaGreat.Gn
end

section
namespace Go.Proofs.YtdmepjjepogddaaGreat.Gn
open Go.Rf Go.IntWalk
set_option linter.unusedVariables false
set_option linter.unusedSimpArgs false
theorem bt {α β : Type} {o o' : Option α} {f : α → Option β} {x : Option β} (h : o = o') (h2 : o'.bind f = x) : o.bind f = x := by rw [h]; exact h2
def Qw (m : den Bd) : Bool := inB m.1 0 65535 && inB m.2.1 1 255 && inB m.2.2.1 1 255 && decide ((m.2.2.2.length : Int) ≤ 40)
theorem Zn (k : Nat) (m : den Bd) : Xb9 k m = some (Qw m) := by
 obtain ⟨v0, v1, v2, v3⟩ := m
 unfold Xb9 Yd Qw; (try dsimp only)
 try dsimp only
 refine (bs (Bj k v0 0 65535)).trans ?_
 cases inB v0 0 65535; · rfl
 refine (ct rfl).trans ((bs (Bj k v1 1 255)).trans ?_)
 cases inB v1 1 255; · rfl
 refine (ct rfl).trans ((bs (Bj k v2 1 255)).trans ?_)
 cases inB v2 1 255 <;> rfl
theorem Xf2 (k : Nat) (m : den Bd) : F79 k m = some (Qw m) := by
 obtain ⟨v0, v1, v2, v3⟩ := m
 unfold F79 Xjg Qw; (try dsimp only)
 try dsimp only
 refine (bs (Eh k v0)).trans ?_
 cases inB v0 0 65535; · rfl
 refine (ct rfl).trans ((bs (Xer k v1)).trans ?_)
 cases inB v1 1 255; · rfl
 refine (ct rfl).trans ((bs (Xer k v2)).trans ?_)
 cases inB v2 1 255 <;> rfl
theorem D5 {m : den Bd} (h : Qw m = true) : (0 ≤ m.1 ∧ m.1 ≤ 65535) ∧ (1 ≤ m.2.1 ∧ m.2.1 ≤ 255) ∧ (1 ≤ m.2.2.1 ∧ m.2.2.1 ≤ 255) ∧ m.2.2.2.length ≤ 40 := by
 unfold Qw at h
 simp only [Bool.and_eq_true, decide_eq_true_eq] at h
 exact ⟨A7 h.1.1.1, A7 h.1.1.2, A7 h.1.2, by omega⟩
def L1 (n : Int) (m : den Bd) : Bool := Qw m && @BEq.beq Int _ m.2.2.1 n
def okO (p : den Ay) : Bool := inB p.1 1 255 && decide (p.2.length ≤ 3) && p.2.all (L1 p.1)
theorem X57 (k : Nat) (m : den Bd) (p : den Ay) : F87 k m p = some (!(L1 p.1 m), p) := by
 unfold F87 L1; (try dsimp only)
 refine (bs (Xf2 k m)).trans ?_
 cases Qw m <;> rfl
theorem Xoo (k : Nat) (r : maL) (wx p : den Ay) (hl : r.length ≤ 1000) : ∀ (n j : Nat), j ≤ r.length → r.length - j < n → ∃ x : Int, La k r wx n (j : Int) p = some (x, p) ∧ decide (x ≥ 0) = !(r.drop j).all (L1 p.1)
 | 0, j, _, h => by omega
 | n + 1, j, hj, h => by
  rw [La]
  unfold Li; (try dsimp only [Ax])
  rcases Nat.lt_or_ge j r.length with hlt | hge
  ·have d1 : decide ((j : Int) < ((r.length : Nat) : Int)) = true := decide_eq_true (by omega)
   have d0 : decide ((0 : Int) ≤ ((j : Nat) : Int)) = true := decide_eq_true (by omega)
   obtain ⟨x, h1, h2⟩ := Xoo k r wx p hl n (j + 1) hlt (by omega)
   have e := X57 k r[j] p
   rw [Ap r j hlt, Gv j (by omega), List.drop_eq_getElem_cons hlt]
   cases hh : L1 p.1 r[j] with
   | true =>
    rw [hh] at e
    exact ⟨x, (ct d1).trans ((ct d0).trans ((ct d1).trans ((bs e).trans ((cf rfl).trans h1)))), by rw [List.all_cons, hh]; exact h2⟩
   | false =>
    rw [hh] at e
    exact ⟨j, (ct d1).trans ((ct d0).trans ((ct d1).trans ((bs e).trans ((ct rfl).trans rfl)))), by rw [List.all_cons, hh]; exact decide_eq_true (by omega)⟩
  ·have : j = r.length := by omega
   subst this
   rw [List.drop_length]
   exact ⟨-1, (cf (decide_eq_false (by omega))).trans rfl, rfl⟩
theorem X4y (k : Nat) (r : maL) (p : den Ay) (hl : r.length ≤ 1000) (hk : 1048576 < k) : F86 k r p = some (!r.all (L1 p.1), p) := by
 obtain ⟨x, h1, h2⟩ := Xoo k r p p hl k 0 (Nat.zero_le _) (by omega)
 rw [List.drop_zero] at h2
 unfold F86; (try dsimp only)
 refine (bs h1).trans ?_
 show some (decide (x ≥ 0), p) = _
 rw [h2]
theorem Xrl (k : Nat) (v : poL) (i : Nat) (hi : i < v.length) (hr : v[i].2.length ≤ 1000) (G : Int → Option Bool) : ∀ (n j : Nat), j ≤ v[i].2.length → v[i].2.length - j < n →
  (J5 k v n (i : Int) (j : Int)).bind (fun z2 => Gz (fun y2 => some false) (Gz (fun y2 => some false) (fun y2 => G (IntKind.i64.wrap (y2.1 + 1)))) z2) = cond ((v[i].2.drop j).all (L1 v[i].1)) (G (IntKind.i64.wrap ((i : Int) + 1))) (some false)
 | 0, j, _, h => by omega
 | n + 1, j, hj, h => by
  rw [J5]
  unfold Nv; (try dsimp only [Ax])
  have i1 : decide ((i : Int) < ((v.length : Nat) : Int)) = true := decide_eq_true (by omega)
  have i0 : decide ((0 : Int) ≤ ((i : Nat) : Int)) = true := decide_eq_true (by omega)
  rw [Ap v i hi]
  rcases Nat.lt_or_ge j v[i].2.length with hlt | hge
  ·have d1 : decide ((j : Int) < ((v[i].2.length : Nat) : Int)) = true := decide_eq_true (by omega)
   have d0 : decide ((0 : Int) ≤ ((j : Nat) : Int)) = true := decide_eq_true (by omega)
   have ih := Xrl k v i hi hr G n (j + 1) hlt (by omega)
   have e := Zn k v[i].2[j]
   rw [Ap v[i].2 j hlt, Gv j (by omega), List.drop_eq_getElem_cons hlt, List.all_cons]
   cases ho : Qw v[i].2[j] with
   | false =>
    rw [ho] at e
    refine bt ((ct i0).trans ((ct i1).trans ((ct d1).trans ((ct i0).trans ((ct i1).trans ((ct d0).trans ((ct d1).trans ((bs e).trans (ct rfl))))))))) ?_
    unfold L1
    rw [ho]
    rfl
   | true =>
    rw [ho] at e
    cases hq : @BEq.beq Int _ v[i].2[j].2.2.1 v[i].1 with
    | false =>
     have q : (v[i].2[j].2.2.1 != v[i].1) = true := by show (!(@BEq.beq Int _ v[i].2[j].2.2.1 v[i].1)) = true; rw [hq]; rfl
     refine bt ((ct i0).trans ((ct i1).trans ((ct d1).trans ((ct i0).trans ((ct i1).trans ((ct d0).trans ((ct d1).trans ((bs e).trans ((cf rfl).trans ((ct i0).trans ((ct i1).trans ((ct d0).trans ((ct d1).trans ((ct i0).trans ((ct i1).trans (ct q)))))))))))))))) ?_
     rw [show L1 v[i].1 v[i].2[j] = false by unfold L1; rw [ho, hq]; rfl]
     rfl
    | true =>
     have q : (v[i].2[j].2.2.1 != v[i].1) = false := by show (!(@BEq.beq Int _ v[i].2[j].2.2.1 v[i].1)) = false; rw [hq]; rfl
     refine bt ((ct i0).trans ((ct i1).trans ((ct d1).trans ((ct i0).trans ((ct i1).trans ((ct d0).trans ((ct d1).trans ((bs e).trans ((cf rfl).trans ((ct i0).trans ((ct i1).trans ((ct d0).trans ((ct d1).trans ((ct i0).trans ((ct i1).trans (cf q)))))))))))))))) ?_
     rw [show L1 v[i].1 v[i].2[j] = true by unfold L1; rw [ho, hq]; rfl, Bool.true_and]
     exact ih
  ·have : j = v[i].2.length := by omega
   subst this
   rw [List.drop_length]
   refine bt ((ct i0).trans ((ct i1).trans (cf (decide_eq_false (by omega))))) ?_
   rfl
def spT (k : Nat) (v : poL) (n : Nat) (j : Int) : Option Bool := cond (decide (((Ad v j).2.length : Int) > 3)) (some false) ((J5 k v k j 0).bind fun z2 => Gz (fun y2 => some false) (Gz (fun y2 => some false) (fun y2 => Im k v n (IntKind.i64.wrap (y2.1 + 1)))) z2)
theorem ps_l (k : Nat) (v : poL) (hl : v.length ≤ 1048576) (hk : 1048576 < k) : ∀ (n j : Nat), j ≤ v.length → v.length - j < n → ∃ b, Im k v n (j : Int) = some b ∧ Mw k v n (j : Int) = some b ∧
  (b = true → (∀ p ∈ v.drop j, okO p = true) ∧ (∀ (i : Nat) (h : i < v.length), j ≤ i → 0 < i → @LT.lt Int _ (v[i - 1]'(by omega)).1 v[i].1) ∧ v.length ≤ 4)
 | 0, j, _, h => by omega
 | n + 1, j, hj, h => by
  rw [Im, Mw]
  unfold Ou; (try dsimp only [Ax])
  rcases Nat.lt_or_ge j v.length with hlt | hge
  ·have d1 : decide ((j : Int) < ((v.length : Nat) : Int)) = true := decide_eq_true (by omega)
   have d0 : decide ((0 : Int) ≤ ((j : Nat) : Int)) = true := decide_eq_true (by omega)
   obtain ⟨b, hb1, hb2, hb3⟩ := ps_l k v hl hk n (j + 1) hlt (by omega)
   have hg := Ap v j hlt
   have i1 := Bj k v[j].1 1 255
   have i2 := Xer k v[j].1
   cases hin : inB v[j].1 1 255 with
   | false =>
    rw [hin] at i1 i2
    rw [hg]
    exact ⟨false, (ct d1).trans ((ct d0).trans ((ct d1).trans ((bs i1).trans ((ct rfl).trans rfl)))), (ct d1).trans ((ct d0).trans ((ct d1).trans ((bs i2).trans ((ct rfl).trans rfl)))), fun h => by cases h⟩
   | true =>
    rw [hin] at i1 i2
    obtain ⟨c, t1, t2, t3⟩ : ∃ c, spT k v n (j : Int) = some c ∧ G6 k v (Mw k v n) some (j : Int) = some c ∧ (c = true → okO v[j] = true ∧ b = true) := by
     unfold spT G6; (try dsimp only)
     rw [hg]
     by_cases c3 : (v[j].2.length : Int) > 3
     ·exact ⟨false, (ct (decide_eq_true c3)).trans rfl, (ct (decide_eq_true c3)).trans rfl, fun h => by cases h⟩
     ·have r1 := Xrl k v j hlt (by omega) (Im k v n) k 0 (Nat.zero_le _) (by omega)
      have r2 := X4y k v[j].2 v[j] (by omega) hk
      rw [List.drop_zero] at r1
      cases ha : v[j].2.all (L1 v[j].1) with
      | false =>
       rw [ha] at r1 r2
       exact ⟨false, (cf (decide_eq_false c3)).trans r1, (cf (decide_eq_false c3)).trans ((bs r2).trans ((ct rfl).trans rfl)), fun h => by cases h⟩
      | true =>
       rw [ha] at r1 r2
       rw [Gv j (by omega)] at r1 ⊢
       refine ⟨b, (cf (decide_eq_false c3)).trans (r1.trans hb1), (cf (decide_eq_false c3)).trans ((bs r2).trans ((cf rfl).trans hb2)), fun h => ⟨?_, h⟩⟩
       unfold okO
       rw [hin, ha, decide_eq_true (by omega)]
       rfl
    have Pa : c = true → (0 < j → @LT.lt Int _ (v[j - 1]'(by omega)).1 v[j].1) → (∀ p ∈ v.drop j, okO p = true) ∧ (∀ (i : Nat) (h : i < v.length), j ≤ i → 0 < i → @LT.lt Int _ (v[i - 1]'(by omega)).1 v[i].1) ∧ v.length ≤ 4 := fun hc hlt0 => by
     obtain ⟨o1, o2⟩ := t3 hc
     obtain ⟨p1, p2, p3⟩ := hb3 o2
     refine ⟨fun p hp => ?_, fun i h hji h0 => ?_, p3⟩
     ·rw [List.drop_eq_getElem_cons hlt] at hp
      rcases List.mem_cons.1 hp with rfl | hp
      ·exact o1
      ·exact p1 p hp
     ·rcases Nat.lt_or_ge j i with q | q
      ·exact p2 i h q h0
      ·obtain rfl : i = j := by omega
       exact hlt0 h0
    rcases Nat.eq_zero_or_pos j with h0 | h0
    ·have g0 : decide ((j : Int) > 0) = false := decide_eq_false (by omega)
     rw [hg]
     refine ⟨c, (ct d1).trans ((ct d0).trans ((ct d1).trans ((bs i1).trans ((cf rfl).trans ((cf g0).trans ((ct d0).trans ((ct d1).trans ?_))))))), (ct d1).trans ((ct d0).trans ((ct d1).trans ((bs i2).trans ((cf rfl).trans ((cf g0).trans t2))))), fun hc => Pa hc (fun h => by omega)⟩
     unfold spT at t1
     rw [hg] at t1
     exact t1
    ·have g0 : decide ((j : Int) > 0) = true := decide_eq_true (by omega)
     have e1 : IntKind.i64.wrap ((j : Int) - 1) = ((j - 1 : Nat) : Int) := by rw [i64_in _ (by omega)]; omega
     have q1 : decide (((j - 1 : Nat) : Int) < ((v.length : Nat) : Int)) = true := decide_eq_true (by omega)
     have q0 : decide ((0 : Int) ≤ ((j - 1 : Nat) : Int)) = true := decide_eq_true (by omega)
     rw [e1, Ap v (j - 1) (by omega), hg]
     unfold spT at t1
     rw [hg] at t1
     by_cases cc : @GE.ge Int _ v[j - 1].1 v[j].1
     ·exact ⟨false, (ct d1).trans ((ct d0).trans ((ct d1).trans ((bs i1).trans ((cf rfl).trans ((ct g0).trans ((ct q0).trans ((ct q1).trans ((ct d0).trans ((ct d1).trans ((ct (decide_eq_true cc)).trans rfl)))))))))),
       (ct d1).trans ((ct d0).trans ((ct d1).trans ((bs i2).trans ((cf rfl).trans ((ct g0).trans ((ct q0).trans ((ct q1).trans ((ct (decide_eq_true cc)).trans rfl)))))))), fun h => by cases h⟩
     ·exact ⟨c, (ct d1).trans ((ct d0).trans ((ct d1).trans ((bs i1).trans ((cf rfl).trans ((ct g0).trans ((ct q0).trans ((ct q1).trans ((ct d0).trans ((ct d1).trans ((cf (decide_eq_false cc)).trans ((ct d0).trans ((ct d1).trans t1)))))))))))),
       (ct d1).trans ((ct d0).trans ((ct d1).trans ((bs i2).trans ((cf rfl).trans ((ct g0).trans ((ct q0).trans ((ct q1).trans ((cf (decide_eq_false cc)).trans t2)))))))), fun hc => Pa hc (fun _ => Int.not_le.1 cc)⟩
  ·have : j = v.length := by omega
   subst this
   rw [List.drop_length]
   have d1 : decide (((v.length : Nat) : Int) < ((v.length : Nat) : Int)) = false := decide_eq_false (by omega)
   exact ⟨decide (((v.length : Nat) : Int) ≤ 4), (cf d1).trans rfl, (cf d1).trans rfl, fun h => ⟨fun r hr => (by cases hr), fun i h h2 => (by omega), by have := of_decide_eq_true h; omega⟩⟩
structure POK (v : poL) : Prop where
 ok : ∀ p ∈ v, okO p = true
 lt : ∀ (i : Nat) (h : i < v.length), 0 < i → @LT.lt Int _ (v[i - 1]'(by omega)).1 v[i].1
 len : v.length ≤ 4
theorem Xov (k : Nat) (v : poL) (hl : v.length ≤ 1048576) (hk : 1048576 < k) : ∃ b, F80 k v = some b ∧ F30 k v = some b ∧ (b = true → POK v) := by
 obtain ⟨b, h1, h2, h3⟩ := ps_l k v hl hk k 0 (Nat.zero_le _) (by omega)
 rw [List.drop_zero] at h3
 exact ⟨b, h1, h2, fun h => ⟨(h3 h).1, fun i hi h0 => (h3 h).2.1 i hi (Nat.zero_le _) h0, (h3 h).2.2⟩⟩
theorem Ie {p : den Ay} (h : okO p = true) : (1 ≤ p.1 ∧ p.1 ≤ 255) ∧ p.2.length ≤ 3 ∧ ∀ m ∈ p.2, L1 p.1 m = true := by
 unfold okO at h
 simp only [Bool.and_eq_true, decide_eq_true_eq, List.all_eq_true] at h
 exact ⟨A7 h.1.1, h.1.2, h.2⟩
theorem Xcw {n : Int} {m : den Bd} (h : L1 n m = true) : Qw m = true ∧ @Eq Int m.2.2.1 n := by
 unfold L1 at h
 rw [Bool.and_eq_true] at h
 exact ⟨h.1, beq_iff_eq.1 h.2⟩
structure ShO (v : poL) : Prop where
 a : v.length ≤ 1000
 b : ∀ p ∈ v, p.2.length ≤ 1000
 c : ∀ p ∈ v, ∀ m ∈ p.2, m.2.2.2.length ≤ 1000
theorem POK.sh {v : poL} (h : POK v) : ShO v := ⟨by have := h.len; omega, fun p hp => by have := (Ie (h.ok p hp)).2.1; omega, fun p hp m hm => by have := (D5 (Xcw ((Ie (h.ok p hp)).2.2 m hm)).1).2.2.2; omega⟩
theorem cpR (k : Nat) (v : poL) (i : Nat) (hi : i < v.length) (hr : v[i].2.length ≤ 1000) (hd : ∀ m ∈ v[i].2, m.2.2.2.length ≤ 1000) (M : poL) : ∀ (n j : Nat) (a : Int) (c : maL), j ≤ v[i].2.length → v[i].2.length - j < n → c.length ≤ j →
  Qc k v n (i : Int) (j : Int) M (a, c) = some ((i : Int), ((v[i].2.length : Nat) : Int), M, (a, c ++ v[i].2.drop j))
 | 0, j, a, c, _, h, _ => by omega
 | n + 1, j, a, c, hj, h, hc => by
  rw [Qc]
  unfold Ny; (try dsimp only [Ax, Be])
  have i1 : decide ((i : Int) < ((v.length : Nat) : Int)) = true := decide_eq_true (by omega)
  have i0 : decide ((0 : Int) ≤ ((i : Nat) : Int)) = true := decide_eq_true (by omega)
  rw [Ap v i hi]
  rcases Nat.lt_or_ge j v[i].2.length with hlt | hge
  ·have d1 : decide ((j : Int) < ((v[i].2.length : Nat) : Int)) = true := decide_eq_true (by omega)
   have d0 : decide ((0 : Int) ≤ ((j : Nat) : Int)) = true := decide_eq_true (by omega)
   have hm := hd _ (List.getElem_mem hlt)
   have ih := cpR k v i hi hr hd M n (j + 1) a (c ++ [v[i].2[j]]) hlt (by omega) (by simp; omega)
   rw [Ap v[i].2 j hlt, Gv j (by omega)]
   refine (ct i0).trans ((ct i1).trans ((ct d1).trans ((ct i0).trans ((ct i1).trans ((ct d0).trans ((ct d1).trans ((ct (decide_eq_true (by show (0 + v[i].2[j].2.2.2.length) * 1 ≤ 140737488355328; omega))).trans ((ct (decide_eq_true (by show (c.length + 1) * 48 ≤ 140737488355328; omega))).trans (ih.trans ?_)))))))))
   rw [List.append_assoc, List.singleton_append, ← List.drop_eq_getElem_cons hlt]
  ·have : j = v[i].2.length := by omega
   subst this
   rw [List.drop_length, List.append_nil]
   exact (ct i0).trans ((ct i1).trans ((cf (decide_eq_false (by omega))).trans rfl))
theorem X16 (k : Nat) (v : poL) (hs : ShO v) (hk : 1048576 < k) : ∀ (n j : Nat) (M : poL), j ≤ v.length → v.length - j < n → M.length ≤ j → Qg k v n (j : Int) M = some (M ++ v.drop j)
 | 0, j, M, _, h, _ => by omega
 | n + 1, j, M, hj, h, hM => by
  rw [Qg]
  have := hs.a
  rcases Nat.lt_or_ge j v.length with hlt | hge
  ·have d1 : decide ((j : Int) < ((v.length : Nat) : Int)) = true := decide_eq_true (by omega)
   have d0 : decide ((0 : Int) ≤ ((j : Nat) : Int)) = true := decide_eq_true (by omega)
   have hb := hs.b _ (List.getElem_mem hlt)
   have r1 := cpR k v j hlt hb (hs.c _ (List.getElem_mem hlt)) M k 0 v[j].1 [] (Nat.zero_le _) (by omega) (Nat.zero_le _)
   have ih := X16 k v hs hk n (j + 1) (M ++ [v[j]]) hlt (by omega) (by simp; omega)
   rw [Ap v j hlt]
   rw [List.drop_zero, List.nil_append] at r1
   refine (ct d1).trans ((ct d0).trans ((ct d1).trans ((bs r1).trans ((ct (decide_eq_true (by show (M.length + 1) * 32 ≤ 140737488355328; omega))).trans ?_))))
   dsimp only
   rw [Gv j (by omega)]
   refine ih.trans ?_
   rw [List.append_assoc, List.singleton_append, ← List.drop_eq_getElem_cons hlt]
  ·have : j = v.length := by omega
   subst this
   rw [List.drop_length, List.append_nil]
   exact (cf (decide_eq_false (by omega))).trans rfl
theorem Q6 (k : Nat) (v : poL) (hs : ShO v) (hk : 1048576 < k) : F81 k v = some v := by
 have := hs.a
 exact X16 k v hs hk k 0 [] (Nat.zero_le _) (by omega) (Nat.zero_le _)
theorem X1d (k : Nat) (l : maL) : Xig k l = some l := by
 simp only [Xig, Y5]
 rw [decide_eq_true (by omega : (0 : Int) ≤ ((l.length : Nat) : Int))]
 simp
theorem X1h (k : Nat) (l : poL) : Xee k l = some l := by
 simp only [Xee, Ya]
 rw [decide_eq_true (by omega : (0 : Int) ≤ ((l.length : Nat) : Int))]
 simp
theorem cpI (k : Nat) (v : poL) (i : Int) (r : maL) (hr : r.length ≤ 1000) (hd : ∀ m ∈ r, m.2.2.2.length ≤ 1000) (M : poL) : ∀ (n j : Nat) (a : Int) (c : maL), j ≤ r.length → r.length - j < n → c.length ≤ j →
  Qs k v n i r ((r.length : Nat) : Int) (j : Int) M (a, c) = some (i, r, ((r.length : Nat) : Int), ((r.length : Nat) : Int), M, (a, c ++ r.drop j))
 | 0, j, a, c, _, h, _ => by omega
 | n + 1, j, a, c, hj, h, hc => by
  rw [Qs]
  unfold N5; (try dsimp only [Ax, Be])
  rcases Nat.lt_or_ge j r.length with hlt | hge
  ·have d1 : decide ((j : Int) < ((r.length : Nat) : Int)) = true := decide_eq_true (by omega)
   have d0 : decide ((0 : Int) ≤ ((j : Nat) : Int)) = true := decide_eq_true (by omega)
   have hm := hd _ (List.getElem_mem hlt)
   have ih := cpI k v i r hr hd M n (j + 1) a (c ++ [r[j]]) hlt (by omega) (by simp; omega)
   have e := K7 k r[j].2.2.2 (by omega)
   rw [Ap r j hlt, Gv j (by omega)]
   refine (ct d1).trans ((ct d0).trans ((ct d1).trans ((bs e).trans ((ct (decide_eq_true (by show (c.length + 1) * 48 ≤ 140737488355328; omega))).trans (ih.trans ?_)))))
   rw [List.append_assoc, List.singleton_append, ← List.drop_eq_getElem_cons hlt]
  ·have : j = r.length := by omega
   subst this
   rw [List.drop_length, List.append_nil]
   exact (cf (decide_eq_false (by omega))).trans rfl
theorem X3m (k : Nat) (v : poL) (hs : ShO v) (hk : 1048576 < k) : ∀ (n j : Nat) (M : poL), j ≤ v.length → v.length - j < n → M.length ≤ j → Pq k v n (j : Int) M = some (M ++ v.drop j)
 | 0, j, M, _, h, _ => by omega
 | n + 1, j, M, hj, h, hM => by
  rw [Pq]
  have := hs.a
  rcases Nat.lt_or_ge j v.length with hlt | hge
  ·have d1 : decide ((j : Int) < ((v.length : Nat) : Int)) = true := decide_eq_true (by omega)
   have d0 : decide ((0 : Int) ≤ ((j : Nat) : Int)) = true := decide_eq_true (by omega)
   have hb := hs.b _ (List.getElem_mem hlt)
   have r1 := cpI k v (j : Int) v[j].2 hb (hs.c _ (List.getElem_mem hlt)) M k 0 v[j].1 [] (Nat.zero_le _) (by omega) (Nat.zero_le _)
   have ih := X3m k v hs hk n (j + 1) (M ++ [v[j]]) hlt (by omega) (by simp; omega)
   rw [Ap v j hlt]
   rw [List.drop_zero, List.nil_append] at r1
   refine (ct d1).trans ((ct d0).trans ((ct d1).trans ((bs r1).trans ((bs (X1d k v[j].2)).trans ((ct (decide_eq_true (by show (M.length + 1) * 32 ≤ 140737488355328; omega))).trans ?_)))))
   dsimp only
   rw [Gv j (by omega)]
   refine ih.trans ?_
   rw [List.append_assoc, List.singleton_append, ← List.drop_eq_getElem_cons hlt]
  ·have : j = v.length := by omega
   subst this
   rw [List.drop_length, List.append_nil]
   exact (cf (decide_eq_false (by omega))).trans ((bs (X1h k M)).trans rfl)
theorem Px (k : Nat) (v : poL) (hs : ShO v) (hk : 1048576 < k) : F78 k v = some v := by
 have := hs.a
 exact X3m k v hs hk k 0 [] (Nat.zero_le _) (by omega) (Nat.zero_le _)
end Go.Proofs.YtdmepjjepogddaaGreat.Gn
end

section
namespace Go.Proofs.YtdmepjjepogddaaGreat.Gn
open Go.Rf Go.IntWalk
set_option linter.unusedVariables false
set_option linter.unusedSimpArgs false
theorem Xlb (q : Nat) (f t : Int) (b : A4) (hf : 0 ≤ f ∧ f ≤ 65535) (ht : 0 ≤ t ∧ t ≤ 65535) (hb : BOk b) (hl : b.length ≤ 1000) (hk : 1048576 < q + 4) : Xfu (q + 4) f t b = some (Mz (Dh f ++ Dh t ++ b)) := by
 unfold Xfu Y4; (try dsimp only [Be])
 refine (bs (Hy q f hf)).trans ?_
 refine (bs (Hy q t ht)).trans ?_
 refine (ct (by rfl)).trans ?_
 have h4 : (Dh f ++ Dh t).length = 4 := rfl
 refine (ct (decide_eq_true (by rw [h4]; omega))).trans ?_
 refine (bs (Xj0 (q + 4) (Dh f ++ Dh t ++ b) (((Ep hf).app (Ep ht)).app hb) (by rw [List.length_append, h4]; omega) hk)).trans rfl
theorem Ybu (q : Nat) (f t : Int) (hf : 0 ≤ f ∧ f ≤ 65535) (ht : 0 ≤ t ∧ t ≤ 65535) : F95 (q + 4) f t = some (Dh f ++ Dh t) := by
 unfold F95 Xjc; (try dsimp only)
 refine (bs (Mk q f hf)).trans ?_
 refine (bs (Mk q t ht)).trans ?_
 have := Qo (q + 4) [Dh f, Dh t] (show 2 < q + 4 by omega) (by show 2 ≤ 1048576; omega) (by show 4 ≤ 4194304; omega)
 refine (bs this).trans ?_
 simp
def Lz (m : den Bd) : A4 := [I5 m.2.1, I5 m.2.2.1, I5 ((m.2.2.2.length : Nat) : Int)] ++ m.2.2.2
def M0 (m : den Bd) (t : Int) : A4 := Lz m ++ Dh (Mz (Dh m.1 ++ Dh t ++ Lz m))
def mb (m : den Bd) (t : Int) : A4 := cond (Qw m && inB t 0 65535) (M0 m t) []
theorem Ts {m : den Bd} (hb : BOk m.2.2.2) : BOk (Lz m) := BOk.nil.cons.cons.cons.app hb
theorem Ld (m : den Bd) : (Lz m).length = m.2.2.2.length + 3 := by unfold Lz; rw [List.length_append]; exact Nat.add_comm _ _
theorem Lq (m : den Bd) (t : Int) : (M0 m t).length = m.2.2.2.length + 5 := by unfold M0; rw [List.length_append, Ld, Ks]
theorem Ycg {m : den Bd} {t : Int} (ho : Qw m = true) (ht : 0 ≤ t ∧ t ≤ 65535) (hb : BOk m.2.2.2) : 0 ≤ Mz (Dh m.1 ++ Dh t ++ Lz m) ∧ Mz (Dh m.1 ++ Dh t ++ Lz m) ≤ 65535 :=
 Xaz (((Ep (D5 ho).1).app (Ep ht)).app (Ts hb))
theorem Xt4 {m : den Bd} {t : Int} (ho : Qw m = true) (ht : 0 ≤ t ∧ t ≤ 65535) (hb : BOk m.2.2.2) : BOk (M0 m t) := (Ts hb).app (Ep (Ycg ho ht hb))
theorem Yew {m : den Bd} {t : Int} (hb : BOk m.2.2.2) : BOk (mb m t) ∧ (mb m t).length ≤ 45 := by
 unfold mb
 cases ho : Qw m with
 | false => exact ⟨BOk.nil, by simp⟩
 | true =>
  cases ht : inB t 0 65535 with
  | false => exact ⟨BOk.nil, by simp⟩
  | true =>
   refine ⟨Xt4 ho (A7 ht) hb, ?_⟩
   have := (D5 ho).2.2.2
   show (M0 m t).length ≤ 45
   rw [Lq]; omega
theorem Xu1 (q : Nat) (m : den Bd) (t : Int) (hb : BOk m.2.2.2) (hk : 1048576 < q + 4) : F82 (q + 4) m t = some (mb m t) := by
 unfold F82 Xkj mb; (try dsimp only [Be, Ek])
 refine (bs (Zn (q + 4) m)).trans ?_
 cases ho : Qw m with
 | false => rfl
 | true =>
  refine (cf rfl).trans ((bs (Bj (q + 4) t 0 65535)).trans ?_)
  cases ht : inB t 0 65535 with
  | false => rfl
  | true =>
   obtain ⟨a0, _, _, a4⟩ := D5 ho
   have hS := Ycg ho (A7 ht) hb
   have hL := Ld m
   refine (cf rfl).trans ((ct (decide_eq_true (by show (3 + m.2.2.2.length) * 1 ≤ 140737488355328; omega))).trans ((bs (Xlb q m.1 t (Lz m) a0 (A7 ht) (Ts hb) (by omega) hk)).trans ((bs (Hy q _ hS)).trans ((ct (decide_eq_true ?_)).trans rfl))))
   show ((Lz m).length + 2) * 1 ≤ 140737488355328
   omega
theorem Xgm (q : Nat) (m : den Bd) (t : Int) (hb : BOk m.2.2.2) (hk : 1048576 < q + 4) : F33 (q + 4) m t = some (mb m t) := by
 unfold F33 Xjs mb; (try dsimp only [Be, Ek])
 refine (bs (Xf2 (q + 4) m)).trans ?_
 cases ho : Qw m with
 | false => rfl
 | true =>
  refine (cf rfl).trans ((bs (Eh (q + 4) t)).trans ?_)
  cases ht : inB t 0 65535 with
  | false => rfl
  | true =>
   obtain ⟨a0, _, _, a4⟩ := D5 ho
   have hS := Ycg ho (A7 ht) hb
   have hL := Ld m
   have h4 : (Dh m.1 ++ Dh t).length = 4 := rfl
   have f1 : [Dh m.1 ++ Dh t, Lz m].flatten = Dh m.1 ++ Dh t ++ Lz m := by simp
   have c1 := Qo (q + 4) [Dh m.1 ++ Dh t, Lz m] (show 2 < q + 4 by omega) (by show 2 ≤ 1048576; omega) (by rw [f1, List.length_append, h4, hL]; omega)
   rw [f1] at c1
   have s1 := Xt8 q (Dh m.1 ++ Dh t ++ Lz m) (((Ep a0).app (Ep (A7 ht))).app (Ts hb)) (by rw [List.length_append, h4, hL]; omega)
   have f2 : [Lz m, Dh (Mz (Dh m.1 ++ Dh t ++ Lz m))].flatten = M0 m t := by simp [M0]
   have c2 := Qo (q + 4) [Lz m, Dh (Mz (Dh m.1 ++ Dh t ++ Lz m))] (show 2 < q + 4 by omega) (by show 2 ≤ 1048576; omega) (by rw [f2, Lq]; omega)
   rw [f2] at c2
   refine (cf rfl).trans ((ct (decide_eq_true (by show (3 + m.2.2.2.length) * 1 ≤ 140737488355328; omega))).trans ((bs (Ybu q m.1 t a0 (A7 ht))).trans ((bs c1).trans ((bs s1).trans ((bs (Mk q _ hS)).trans ((bs c2).trans rfl))))))
theorem X9s (x : A4) (s : Int) : n2 (x ++ Dh s) x.length = s := by
 have e1 : a8 (x ++ Dh s) x.length = s / 256 := by
  unfold a8
  rw [Ap (x ++ Dh s) x.length (by rw [List.length_append, Ks]; omega), List.getElem_append_right (Nat.le_refl _)]
  simp only [Nat.sub_self]
  rfl
 have e2 : a8 (x ++ Dh s) (x.length + 1) = s % 256 := by
  unfold a8
  rw [Ap (x ++ Dh s) (x.length + 1) (by rw [List.length_append, Ks]; omega), List.getElem_append_right (by omega)]
  simp only [Nat.add_sub_cancel_left]
  rfl
 unfold n2
 rw [e1, e2]
 omega
theorem Wg {m : den Bd} (t : Int) (ho : Qw m = true) : IntKind.i64.wrap (((M0 m t).length : Int) - 2) = (((Lz m).length : Nat) : Int) ∧ (M0 m t).take (Lz m).length = Lz m ∧ (Lz m).drop 3 = m.2.2.2 ∧
  IntKind.i64.wrap (Ad (M0 m t) 0) = m.2.1 ∧ IntKind.i64.wrap (Ad (M0 m t) 1) = m.2.2.1 ∧ IntKind.i64.wrap (Ad (M0 m t) 2) = ((m.2.2.2.length : Nat) : Int) := by
 obtain ⟨_, a1, a2, a3⟩ := D5 ho
 have e : ∀ v : Int, 0 ≤ v ∧ v ≤ 255 → IntKind.i64.wrap (I5 v) = v := fun v hv => by
  have : I5 v = v := u8W v hv
  rw [this]
  exact i64_in v (by omega)
 refine ⟨?_, ?_, rfl, e _ ⟨Int.le_trans (by decide) a1.1, a1.2⟩, e _ ⟨Int.le_trans (by decide) a2.1, a2.2⟩, e _ (by omega)⟩
 ·rw [Lq, Ld, i64_in _ (by omega)]
  omega
 ·unfold M0
  exact List.take_left
theorem X1v (q : Nat) (m : den Bd) (t : Int) (ho : Qw m = true) (ht : inB t 0 65535 = true) (hb : BOk m.2.2.2) (hk : 1048576 < q + 4) : Xg9 (q + 4) m.1 t (M0 m t) = some (m, true) := by
 obtain ⟨p0, p1, p2, p3, p4, p5⟩ := Wg t ho
 obtain ⟨a0, _, _, a3⟩ := D5 ho
 have hl := Lq m t
 have hL := Ld m
 have i1 := Bj (q + 4) m.1 0 65535
 rw [B4 a0] at i1
 have i2 := Bj (q + 4) t 0 65535
 rw [ht] at i2
 have i3 := Zn (q + 4) m
 rw [ho] at i3
 have n1 := Xjm q (M0 m t) (Xt4 ho (A7 ht) hb) (by omega) (Lz m).length (by omega)
 have n2' : n2 (M0 m t) (Lz m).length = Mz (Dh m.1 ++ Dh t ++ Lz m) := X9s _ _
 rw [n2'] at n1
 have s1 := Xlb q m.1 t (Lz m) a0 (A7 ht) (Ts hb) (by omega) hk
 unfold Xg9 Ye; (try dsimp only [Be])
 rw [p0, p3, p4, p5, Int.toNat_natCast, p1, p2]
 refine (cf (decide_eq_false (by omega))).trans ((bs i1).trans ((cf rfl).trans ((bs i2).trans ((cf rfl).trans ((ct (decide_eq_true (by omega))).trans ((ct (decide_eq_true (by omega))).trans ((ct (by rw [decide_eq_true (by omega : (0 : Int) ≤ (((Lz m).length : Nat) : Int)), decide_eq_true (by omega : (((Lz m).length : Nat) : Int) ≤ (((M0 m t).length : Nat) : Int))]; rfl)).trans ((ct (by rw [decide_eq_true (by omega : (3 : Int) ≤ (((Lz m).length : Nat) : Int))]; rfl)).trans ?_))))))))
 refine (ct (decide_eq_true (by show (0 + m.2.2.2.length) * 1 ≤ 140737488355328; omega))).trans ((bs i3).trans ((cf rfl).trans ((ct (decide_eq_true (by omega))).trans ((cf (bne_self_eq_false _)).trans ((bs n1).trans ((ct (by rw [decide_eq_true (by omega : (0 : Int) ≤ (((Lz m).length : Nat) : Int)), decide_eq_true (by omega : (((Lz m).length : Nat) : Int) ≤ (((M0 m t).length : Nat) : Int))]; rfl)).trans ((bs s1).trans ((cf (bne_self_eq_false _)).trans rfl))))))))
theorem X43 (q : Nat) (m : den Bd) (t : Int) (ho : Qw m = true) (ht : inB t 0 65535 = true) (hb : BOk m.2.2.2) (hk : 1048576 < q + 4) : F90 (q + 4) m.1 t (M0 m t) = some (m, true) := by
 obtain ⟨p0, p1, p2, p3, p4, p5⟩ := Wg t ho
 obtain ⟨a0, _, _, a3⟩ := D5 ho
 have hl := Lq m t
 have hL := Ld m
 have c1 := K7 (q + 4) m.2.2.2 (by omega)
 have m1 := Xgm q m t hb hk
 rw [show mb m t = M0 m t by unfold mb; rw [ho, ht]; rfl] at m1
 have e1 := Xjw (q + 4) (M0 m t) (M0 m t) (by omega) (by omega)
 rw [decide_eq_true rfl] at e1
 unfold F90 Xk6; (try dsimp only)
 rw [p0, p3, p4, Int.toNat_natCast, p1, p2]
 refine (cf (decide_eq_false (by omega))).trans ((ct (decide_eq_true (by omega))).trans ((ct (decide_eq_true (by omega))).trans ((ct (by rw [decide_eq_true (by omega : (0 : Int) ≤ (((Lz m).length : Nat) : Int)), decide_eq_true (by omega : (((Lz m).length : Nat) : Int) ≤ (((M0 m t).length : Nat) : Int))]; rfl)).trans ((ct (by rw [decide_eq_true (by omega : (3 : Int) ≤ (((Lz m).length : Nat) : Int))]; rfl)).trans ?_))))
 exact (bs c1).trans ((bs m1).trans ((bs e1).trans ((cf rfl).trans rfl)))
theorem Xrm (k : Nat) (f t : Int) : Xg9 k f t [] = some ((0, 0, 0, []), false) := rfl
theorem Xz0 (k : Nat) (f t : Int) : F90 k f t [] = some ((0, 0, 0, []), false) := rfl
end Go.Proofs.YtdmepjjepogddaaGreat.Gn
end

section
namespace Go.Proofs.YtdmepjjepogddaaGreat.Gn
open Go.Rf Go.IntWalk
set_option linter.unusedVariables false
set_option linter.unusedSimpArgs false
def Vr (n : Int) (p : den Ay) : Bool := @BEq.beq Int _ p.1 n
def Zi (n : Int) : poL → Nat → Int
 | [], _ => -1
 | p :: l, j => cond (Vr n p) (j : Int) (Zi n l (j + 1))
theorem Xsu (k : Nat) (v : poL) (n : Int) (hl : v.length ≤ 1000) : ∀ (c j : Nat), j ≤ v.length → v.length - j < c → Ll k v n c (j : Int) = some (Zi n (v.drop j) j)
 | 0, j, _, h => by omega
 | c + 1, j, hj, h => by
  rw [Ll]
  unfold K4; (try dsimp only [Ax])
  rcases Nat.lt_or_ge j v.length with hlt | hge
  ·have d1 : decide ((j : Int) < ((v.length : Nat) : Int)) = true := decide_eq_true (by omega)
   have d0 : decide ((0 : Int) ≤ ((j : Nat) : Int)) = true := decide_eq_true (by omega)
   rw [Ap v j hlt, Gv j (by omega), List.drop_eq_getElem_cons hlt]
   refine (ct d1).trans ((ct d0).trans ((ct d1).trans ?_))
   rw [Zi, Xsu k v n hl c (j + 1) hlt (by omega)]
   exact Km (Vr n v[j]) _ _
  ·have : j = v.length := by omega
   subst this
   rw [List.drop_length]
   exact (cf (decide_eq_false (by omega))).trans rfl
theorem Xjr (k : Nat) (v : poL) (n : Int) (hl : v.length ≤ 1000) (hk : 1048576 < k) : Xnx k v n = some (Zi n v 0) := Xsu k v n hl k 0 (Nat.zero_le _) (by omega)
theorem Xb1 {n : Int} : ∀ {l : poL} {j : Nat}, (∀ p ∈ l, Vr n p = false) → Zi n l j = -1
 | [], _, _ => rfl
 | p :: l, j, h => by
  rw [Zi, h p (by simp)]
  exact Xb1 fun q hq => h q (by simp [hq])
theorem Xcb {n : Int} : ∀ {l : poL} {j r : Nat} (h : r < l.length), Vr n l[r] = true → (∀ (t : Nat) (ht : t < r), Vr n (l[t]'(by omega)) = false) → Zi n l j = ((j + r : Nat) : Int)
 | p :: l, j, 0, h, h1, _ => by
  have h1 : Vr n p = true := h1
  rw [Zi, h1]
  rfl
 | p :: l, j, r + 1, h, h1, h2 => by
  have h0 : Vr n p = false := h2 0 (by omega)
  rw [Zi, h0]
  refine (Xcb (j := j + 1) (r := r) (by simpa using h) (by simpa using h1) (fun t ht => by simpa using h2 (t + 1) (by omega))).trans ?_
  congr 1
  omega
theorem POK.mono {v : poL} (S : POK v) : ∀ (d i : Nat) (h : i + d + 1 < v.length), @LT.lt Int _ (v[i]'(by omega)).1 v[i + d + 1].1
 | 0, i, h => S.lt (i + 1) h (by omega)
 | d + 1, i, h => by
  have h1 := POK.mono S d i (by omega)
  have h2 := S.lt (i + d + 2) h (by omega)
  exact Int.lt_trans h1 h2
theorem POK.mono' {v : poL} (S : POK v) {i j : Nat} (h : i < j) (hj : j < v.length) : @LT.lt Int _ (v[i]'(by omega)).1 v[j].1 := by
 obtain ⟨d, rfl⟩ : ∃ d, j = i + d + 1 := ⟨j - i - 1, by omega⟩
 exact S.mono d i hj
theorem Xdl {n : Int} {p : den Ay} : Vr n p = true ↔ @Eq Int p.1 n := beq_iff_eq
theorem Xkl {n : Int} {p : den Ay} (h : ¬ @Eq Int p.1 n) : Vr n p = false := by
 cases hh : Vr n p with
 | false => rfl
 | true => exact absurd (Xdl.1 hh) h
theorem Xj1 (k : Nat) (p : den Ay) (n : Int) : Xex k p n = some (O5 p.1 n) := by
 unfold Xex; (try dsimp only)
 exact (bs (Zj k p.1 n)).trans rfl
theorem X8u (k : Nat) (v : poL) (w : Int) (S : POK v) : ∀ (n i j : Nat), i ≤ j → j ≤ v.length → j - i < n → (∀ (t : Nat) (ht : t < v.length), t < i → @LT.lt Int _ v[t].1 w) → (∀ (t : Nat) (ht : t < v.length), j ≤ t → @LE.le Int _ w v[t].1) →
  ∃ (r : Nat) (f : Bool), Lm k v w n (i : Int) (j : Int) = some ((r : Int), f) ∧ (f = true → ∃ h : r < v.length, @Eq Int v[r].1 w) ∧ (f = false → ∀ p ∈ v, ¬ @Eq Int p.1 w)
 | 0, i, j, _, _, h, _, _ => by omega
 | n + 1, i, j, hij, hj, h, h1, h2 => by
  have hl := S.len
  rw [Lm]
  unfold Kf; (try dsimp only [Ax])
  rcases Nat.lt_or_ge i j with hlt | hge
  ·have e : IntKind.i64.wrap ((IntKind.u64.wrap (IntKind.i64.wrap ((i : Int) + (j : Int)))).fdiv (2 ^ (1))) = (((i + j) / 2 : Nat) : Int) := by
    rw [i64_in ((i : Int) + (j : Int)) (by omega), u64_in ((i : Int) + (j : Int)) (by omega), show ((2 : Int) ^ 1) = 2 from rfl, Int.fdiv_eq_ediv_of_nonneg _ (by omega), i64_in _ (by omega)]
    omega
   rw [e]
   have hm1 : i ≤ (i + j) / 2 := by omega
   have hm2 : (i + j) / 2 < j := by omega
   generalize (i + j) / 2 = m at *
   have hml : m < v.length := by omega
   rw [Ap v m hml, Gv m (by omega)]
   have d1 : decide ((m : Int) < ((v.length : Nat) : Int)) = true := decide_eq_true (by omega)
   have d0 : decide ((0 : Int) ≤ ((m : Nat) : Int)) = true := decide_eq_true (by omega)
   have e1 := Xj1 k v[m] w
   by_cases c : @LT.lt Int _ v[m].1 w
   ·obtain ⟨r, f, q1, q2, q3⟩ := X8u k v w S n (m + 1) j (by omega) hj (by omega) (fun t ht htm => by
     rcases Nat.lt_or_ge t m with q | q
     ·exact Int.lt_trans (S.mono' q hml) c
     ·obtain rfl : t = m := by omega
      exact c) h2
    refine ⟨r, f, (ct (decide_eq_true (by omega))).trans ((ct d0).trans ((ct d1).trans ((bs e1).trans ((ct ?_).trans q1)))), q2, q3⟩
    unfold O5
    rw [if_pos c]
    rfl
   ·obtain ⟨r, f, q1, q2, q3⟩ := X8u k v w S n i m hm1 (by omega) (by omega) h1 (fun t ht htm => by
     rcases Nat.lt_or_ge m t with q | q
     ·exact Int.le_trans (Int.not_lt.1 c) (Int.le_of_lt (S.mono' q ht))
     ·obtain rfl : t = m := by omega
      exact Int.not_lt.1 c)
    refine ⟨r, f, (ct (decide_eq_true (by omega))).trans ((ct d0).trans ((ct d1).trans ((bs e1).trans ((cf ?_).trans q1)))), q2, q3⟩
    unfold O5
    rw [if_neg c]
    split <;> rfl
  ·obtain rfl : i = j := by omega
   have d9 : decide ((i : Int) < (i : Int)) = false := decide_eq_false (by omega)
   by_cases c : i < v.length
   ·have d1 : decide ((i : Int) < ((v.length : Nat) : Int)) = true := decide_eq_true (by omega)
    have d0 : decide ((0 : Int) ≤ ((i : Nat) : Int)) = true := decide_eq_true (by omega)
    have e1 := Xj1 k v[i] w
    rw [Ap v i c]
    refine ⟨i, O5 v[i].1 w == 0, (cf d9).trans ((ct d1).trans ((ct d0).trans ((ct d1).trans ((bs e1).trans rfl)))), fun hf => ⟨c, ?_⟩, fun hf p hp he => ?_⟩
    ·have := beq_iff_eq.1 hf
     unfold O5 at this
     by_cases q : @LT.lt Int _ v[i].1 w
     ·rw [if_pos q] at this; cases this
     ·rw [if_neg q] at this
      by_cases q2 : @GT.gt Int _ v[i].1 w
      ·rw [if_pos q2] at this; cases this
      ·exact Int.le_antisymm (Int.not_lt.1 q2) (Int.not_lt.1 q)
    ·obtain ⟨t, ht, rfl⟩ := List.mem_iff_getElem.1 hp
     rcases Nat.lt_trichotomy t i with q | q | q
     ·have := h1 t ht q
      rw [he] at this
      exact Int.lt_irrefl _ this
     ·subst q
      unfold O5 at hf
      rw [if_neg (by rw [he]; exact Int.lt_irrefl _), if_neg (by rw [he]; exact Int.lt_irrefl _)] at hf
      cases hf
     ·have a1 := h2 i c (Nat.le_refl _)
      have a2 := S.mono' q ht
      rw [he] at a2
      exact Int.lt_irrefl _ (Int.lt_of_le_of_lt a1 a2)
   ·refine ⟨i, false, (cf d9).trans ((cf (decide_eq_false (by omega))).trans rfl), fun hf => (by cases hf), fun _ p hp he => ?_⟩
    obtain ⟨t, ht, rfl⟩ := List.mem_iff_getElem.1 hp
    have := h1 t ht (by omega)
    rw [he] at this
    exact Int.lt_irrefl _ this
theorem Xnj (k : Nat) {v : poL} (w : Int) (S : POK v) (hk : 1048576 < k) : ∃ (r : Nat) (f : Bool), F91 k v w = some ((r : Int), f) ∧ ((f = false ∧ Zi w v 0 = -1) ∨ (f = true ∧ r < v.length ∧ Zi w v 0 = (r : Int))) := by
 have hl := S.len
 obtain ⟨r, f, h1, h2, h3⟩ := X8u k v w S k 0 v.length (Nat.zero_le _) (Nat.le_refl _) (by omega) (fun t ht h => by omega) (fun t ht h => by omega)
 refine ⟨r, f, ?_, ?_⟩
 ·unfold F91; (try dsimp only)
  exact (bs h1).trans rfl
 ·cases f with
  | false => exact .inl ⟨rfl, Xb1 fun p hp => Xkl (h3 rfl p hp)⟩
  | true =>
   obtain ⟨hr, he⟩ := h2 rfl
   refine .inr ⟨rfl, hr, ?_⟩
   have := Xcb (n := w) (j := 0) hr (Xdl.2 he) (fun t ht => Xkl fun hq => by
    have := S.mono' ht hr
    rw [hq, he] at this
    exact Int.lt_irrefl _ this)
   rw [this, Nat.zero_add]
def Jv (v : poL) (m : den Bd) : poL × Int :=
 cond (decide (Zi m.2.2.1 v 0 < 0)) (v, 3) (cond (decide ((Ad v (Zi m.2.2.1 v 0)).2.length = 3)) (v, 0) (v.set (Zi m.2.2.1 v 0).toNat ((Ad v (Zi m.2.2.1 v 0)).1, (Ad v (Zi m.2.2.1 v 0)).2 ++ [m]), 1))
structure Sm3 (v : poL) : Prop where
 a : v.length ≤ 5
 b : ∀ p ∈ v, p.2.length ≤ 5
 c : ∀ p ∈ v, ∀ m ∈ p.2, m.2.2.2.length ≤ 45
theorem Sm3.sh {v : poL} (h : Sm3 v) : ShO v := ⟨by have := h.a; omega, fun p hp => by have := h.b p hp; omega, fun p hp m hm => by have := h.c p hp m hm; omega⟩
theorem POK.sm {v : poL} (h : POK v) : Sm3 v := ⟨by have := h.len; omega, fun p hp => by have := (Ie (h.ok p hp)).2.1; omega, fun p hp m hm => by have := (D5 (Xcw ((Ie (h.ok p hp)).2.2 m hm)).1).2.2.2; omega⟩
theorem Sm3.nil : Sm3 [] := ⟨by simp, fun p hp => (by cases hp), fun p hp => (by cases hp)⟩
theorem Sm3.put {v : poL} (h : POK v) {m : den Bd} (hm : m.2.2.2.length ≤ 40) {r : Nat} (hr : r < v.length) : Sm3 (v.set r (v[r].1, v[r].2 ++ [m])) := by
 have hs := h.sm
 have hb := (Ie (h.ok _ (List.getElem_mem hr))).2.1
 refine ⟨by rw [List.length_set]; exact hs.a, fun p hp => ?_, fun p hp x hx => ?_⟩
 ·rcases List.mem_or_eq_of_mem_set hp with hp | rfl
  ·exact hs.b p hp
  ·show (v[r].2 ++ [m]).length ≤ 5
   rw [List.length_append, List.length_singleton]; omega
 ·rcases List.mem_or_eq_of_mem_set hp with hp | rfl
  ·exact hs.c p hp x hx
  ·rcases List.mem_append.1 hx with hx | hx
   ·exact hs.c _ (List.getElem_mem hr) x hx
   ·obtain rfl := List.mem_singleton.1 hx
    omega
theorem Xp2 {v : poL} (S : POK v) {m : den Bd} (hm : m.2.2.2.length ≤ 40) (hf : Zi m.2.2.1 v 0 = -1 ∨ ∃ r : Nat, r < v.length ∧ Zi m.2.2.1 v 0 = (r : Int)) : Sm3 (Jv v m).1 := by
 unfold Jv
 rcases hf with e | ⟨r, hr, e⟩
 ·rw [e]; exact S.sm
 ·rw [e, decide_eq_false (by omega), Ap v r hr, Int.toNat_natCast]
  cases decide (v[r].2.length = 3) with
  | true => exact S.sm
  | false => exact Sm3.put S hm hr
theorem Sj (q : Nat) {v : poL} (S : POK v) (s1 : F80 (q + 4) v = some true) (s2 : F30 (q + 4) v = some true) (m : den Bd) {t h : Int} (ho : Qw m = true) (ht : inB t 0 65535 = true) (hb : BOk m.2.2.2) (hh : 0 ≤ h ∧ h ≤ 255) (hk : 1048576 < q + 4) :
  F83 (q + 4) v t (m.1, t, 2, h, 0, 0, false, false, M0 m t) = some (Jv v m) ∧ F32 (q + 4) v t (m.1, t, 2, h, 0, 0, false, false, M0 m t) = some (Jv v m) ∧ Sm3 (Jv v m).1 := by
 obtain ⟨a0, _, _, a3⟩ := D5 ho
 have hl := Lq m t
 have po : Lj (m.1, t, 2, h, 0, 0, false, false, M0 m t) = true := Na a0 (A7 ht) (by omega) hh (by omega) (by omega) (by omega) (fun e => by cases e) (fun e => by cases e)
 have p1 := C2 (q + 4) (m.1, t, 2, h, 0, 0, false, false, M0 m t)
 have p2 := Mi (q + 4) (m.1, t, 2, h, 0, 0, false, false, M0 m t)
 rw [po] at p1 p2
 have c1 := Q6 (q + 4) v S.sh hk
 have c2 := Px (q + 4) v S.sh hk
 have f1 := X1v q m t ho ht hb hk
 have f2 := X43 q m t ho ht hb hk
 have l1 := Xjr (q + 4) v m.2.2.1 S.sh.a hk
 obtain ⟨r, f, l2, l3⟩ := Xnj (q + 4) m.2.2.1 S hk
 have z1 : (t != t) = false := bne_self_eq_false t
 have sm := Xp2 S a3 (l3.elim (fun h => .inl h.2) fun h => .inr ⟨r, h.2.1, h.2.2⟩)
 refine ⟨?_, ?_, sm⟩
 ·unfold F83 Wb; (try dsimp only [Ax, Be, Az])
  refine (bs s1).trans ((cf rfl).trans ((bs c1).trans ((bs f1).trans ((bs p1).trans ((cf rfl).trans ((cf rfl).trans ((cf z1).trans ((cf rfl).trans ((cf rfl).trans ((cf rfl).trans ((bs l1).trans ?_)))))))))))
  unfold Jv
  rcases l3 with ⟨_, e⟩ | ⟨_, hr, e⟩
  ·rw [e]
   exact (ct rfl).trans rfl
  ·rw [e, decide_eq_false (by omega : ¬ (r : Int) < 0), Ap v r hr, Int.toNat_natCast]
   have d1 : decide ((r : Int) < ((v.length : Nat) : Int)) = true := decide_eq_true (by omega)
   have d0 : decide ((0 : Int) ≤ ((r : Nat) : Int)) = true := decide_eq_true (by omega)
   have hb3 := (Ie (S.ok _ (List.getElem_mem hr))).2.1
   refine (cf rfl).trans ((ct d0).trans ((ct d1).trans ?_))
   by_cases c : v[r].2.length = 3
   ·rw [decide_eq_true c]
    exact (ct (by rw [c]; rfl)).trans rfl
   ·rw [decide_eq_false c]
    refine (cf (beq_eq_false_iff_ne.2 (by omega))).trans ((ct d0).trans ((ct d1).trans ((ct (decide_eq_true (by show (v[r].2.length + 1) * 48 ≤ 140737488355328; omega))).trans ((ct d0).trans ((ct d1).trans ((ct (decide_eq_true rfl)).trans rfl))))))
 ·unfold F32 Xcz; (try dsimp only [Ax, Be])
  refine (bs s2).trans ((cf rfl).trans ((bs c2).trans ((bs p2).trans ((cf rfl).trans ((cf rfl).trans ((cf rfl).trans ((cf rfl).trans ((cf z1).trans ((bs f2).trans ((cf rfl).trans ((bs l2).trans ?_)))))))))))
  unfold Jv
  rcases l3 with ⟨hf, e⟩ | ⟨hf, hr, e⟩
  ·rw [e, hf]
   exact (ct rfl).trans rfl
  ·rw [e, hf, decide_eq_false (by omega : ¬ (r : Int) < 0), Ap v r hr, Int.toNat_natCast]
   have d1 : decide ((r : Int) < ((v.length : Nat) : Int)) = true := decide_eq_true (by omega)
   have d0 : decide ((0 : Int) ≤ ((r : Nat) : Int)) = true := decide_eq_true (by omega)
   have hb3 := (Ie (S.ok _ (List.getElem_mem hr))).2.1
   refine (cf rfl).trans ?_
   refine (ct d0).trans ((ct d1).trans ?_)
   by_cases c : v[r].2.length = 3
   ·rw [decide_eq_true c]
    exact (ct (decide_eq_true (by omega))).trans rfl
   ·rw [decide_eq_false c]
    have c3 := Px (q + 4) (v.set r (v[r].1, v[r].2 ++ [m])) (Sm3.put S a3 hr).sh hk
    exact (cf (decide_eq_false (by omega))).trans ((ct d0).trans ((ct d1).trans ((ct (decide_eq_true (by show (v[r].2.length + 1) * 48 ≤ 140737488355328; omega))).trans ((ct d0).trans ((ct d1).trans ((ct (decide_eq_true rfl)).trans ((bs c3).trans rfl)))))))
theorem T8 (q : Nat) {v : poL} (S : POK v) (s1 : F80 (q + 4) v = some true) (s2 : F30 (q + 4) v = some true) (f t h : Int) (hk : 1048576 < q + 4) :
  F83 (q + 4) v t (f, t, 2, h, 0, 0, false, false, []) = some (v, 0) ∧ F32 (q + 4) v t (f, t, 2, h, 0, 0, false, false, []) = some (v, 0) := by
 have p1 := C2 (q + 4) (f, t, 2, h, 0, 0, false, false, [])
 have p2 := Mi (q + 4) (f, t, 2, h, 0, 0, false, false, [])
 have c1 := Q6 (q + 4) v S.sh hk
 have c2 := Px (q + 4) v S.sh hk
 have f1 := Xrm (q + 4) f t
 have f2 := Xz0 (q + 4) f t
 have z1 : (t != t) = false := bne_self_eq_false t
 unfold F83 Wb F32 Xcz; (try dsimp only [Ax, Be, Az])
 cases ho : Lj (f, t, 2, h, 0, 0, false, false, []) with
 | false =>
  rw [ho] at p1 p2
  exact ⟨(bs s1).trans ((cf rfl).trans ((bs c1).trans ((bs f1).trans ((bs p1).trans ((ct rfl).trans rfl))))), (bs s2).trans ((cf rfl).trans ((bs c2).trans ((bs p2).trans ((ct rfl).trans rfl))))⟩
 | true =>
  rw [ho] at p1 p2
  exact ⟨(bs s1).trans ((cf rfl).trans ((bs c1).trans ((bs f1).trans ((bs p1).trans ((cf rfl).trans ((cf rfl).trans ((cf z1).trans ((cf rfl).trans ((cf rfl).trans ((ct rfl).trans rfl)))))))))),
   (bs s2).trans ((cf rfl).trans ((bs c2).trans ((bs p2).trans ((cf rfl).trans ((cf rfl).trans ((cf rfl).trans ((cf rfl).trans ((cf z1).trans ((bs f2).trans ((ct rfl).trans rfl))))))))))⟩
end Go.Proofs.YtdmepjjepogddaaGreat.Gn
end

section
namespace Go.Proofs.YtdmepjjepogddaaGreat.Gn
open Go.Rf Go.IntWalk
set_option linter.unusedVariables false
set_option linter.unusedSimpArgs false
theorem Xag (k : Nat) (v : A4 × Int) (w : Int) : ∀ (n : Nat) (c : Int) (z : A4 × Int) (m : A4) (r : A4 × (A4 × Int)), BOk m → Fj k v w n c z m = some r → BOk r.1
 | 0, _, _, _, _, _, h => by rw [Fj] at h; cases h
 | n + 1, c, z, m, r, hm, h => by
  rw [Fj] at h
  unfold Hi at h; (try dsimp only [Be])
  cases hc : decide (c > 0) with
  | false =>
   rw [hc, cond_false, Option.some.injEq] at h
   rw [← h]
   exact hm
  | true =>
   rw [hc, cond_true] at h
   cases h1 : H7 k z 3 with
   | none => rw [h1] at h; cases h
   | some b1 =>
    rw [h1, Option.bind_some] at h
    have app : ∀ x : Int, BOk (m ++ [IntKind.u8.wrap x]) := fun x => hm.app (BOk.nil.cons (v := x))
    cases hb : (b1.1 == (0 : Int)) with
    | true =>
     rw [show (b1.1 == 0) = true from hb, cond_true] at h
     cases h2 : H7 k b1.2 256 with
     | none => rw [h2] at h; cases h
     | some b2 =>
      rw [h2, Option.bind_some] at h
      exact Xag k v w n _ _ _ r (app _) (Oq h).2
    | false =>
     rw [show (b1.1 == 0) = false from hb, cond_false] at h
     cases h2 : H7 k b1.2 3 with
     | none => rw [h2] at h; cases h
     | some b2 =>
      rw [h2, Option.bind_some] at h
      exact Xag k v w n _ _ _ r (app _) (Oq h).2
theorem btb {β : Type} (k : Nat) (hk : 100 < k) {b : A4} (hb : BOk b) (hl : b.length ≤ 2000) {p n : Int} (hp : 0 ≤ p) (hp2 : p < 999000) (hn : 0 ≤ n ∧ n ≤ 100) {f : A4 × A4 × Int → Option β} {Q : β → Prop}
  (h : ∀ x : A4, (x.length : Int) = n → BOk x → Sm (f (x, b, p + 2 * n)) Q) : Sm ((F72 k (b, p) n).bind f) Q := by
 obtain ⟨c, rfl⟩ := Int.eq_ofNat_of_zero_le hn.1
 obtain ⟨⟨x, y⟩, e, e1, e2⟩ := Xk7 k b p (c : Int) hb hl k c p [] (by omega) (by omega) (by omega) (by omega) (by simp; omega)
 have bo := Xag k (b, p) (c : Int) k (c : Int) (b, p) [] (x, y) BOk.nil e
 dsimp only at e1 e2 bo
 subst e2
 rw [show F72 k (b, p) (c : Int) = some (x, (b, p + 2 * (c : Int))) from e]
 exact h x (by rw [e1]; simp) bo
theorem X1k (k : Nat) (hk : 100 ≤ k) : F24 k = some true := by
 obtain ⟨n, rfl⟩ : ∃ n, k = n + 2 := ⟨k - 2, by omega⟩
 unfold F24 Xi4 F73 Xk5; (try dsimp only)
 have h1 : inB 1 1 4 = true := by decide
 have h2 : inB 5 0 (IntKind.i64.wrap ((IntKind.i64.wrap (1 * 2 ^ (min (IntKind.i64.wrap (8 * 1)).toNat 64))) - 1)) = true := by decide
 have h3 : inB 256 0 (IntKind.i64.wrap ((IntKind.i64.wrap (1 * 2 ^ (min (IntKind.i64.wrap (8 * 1)).toNat 64))) - 1)) = false := by decide
 simp only [Cl, Option.bind_some, h1, h2, h3]
 rfl
theorem Xs3 (q : Nat) {b : A4} (hb : BOk b) (hl : b.length ≤ 2000) (hk : 1048576 < q + 4) {p w : Int} (hp : 0 ≤ p) (hp2 : p < 900000) :
  Sm (F77 (q + 4) (b, p) w) fun z => BOk z.1.2.2.2 ∧ z.1.2.2.2.length ≤ 41 ∧ ∃ p' : Int, z.2 = (b, p') ∧ p ≤ p' ∧ p' ≤ p + 40 := by
 have rep : BOk (List.replicate 41 (Bl (.int .u8))) := fun z hz => by
  obtain rfl := List.eq_of_mem_replicate hz
  exact ⟨Int.le_refl 0, by decide⟩
 unfold F77 Xjn; (try dsimp only)
 refine pk _ hb hl (by omega) (by omega) (by omega) fun x1 _ _ => pk _ hb hl (by omega) (by omega) (by omega) fun x2 _ _ => pk _ hb hl (by omega) (by omega) (by omega) fun x3 _ _ => pk _ hb hl (by omega) (by omega) (by omega) fun x4 a4 b4 => ?_
 refine btb _ (by omega) hb hl (by omega) (by omega) ⟨a4, by omega⟩ fun c hc hbc => ?_
 have hcl : c.length ≤ 41 := by omega
 refine odk _ hb hl (by omega) (by omega) fun o p' h1 h2 => ?_
 refine Sm.cond (fun _ => ?_) (fun _ => ⟨_, rfl, hbc, hcl, p', rfl, by omega, by omega⟩)
 refine pk _ hb hl (by omega) (by omega) (by omega) fun x7 _ _ => ?_
 refine Sm.cond (fun _ => ?_) (fun _ => Sm.cond (fun _ => ?_) (fun _ => ⟨_, rfl, rep, by simp, p' + 1, rfl, by omega, by omega⟩))
 ·exact pk _ hb hl (by omega) (by omega) (by omega) fun x8 _ _ => ⟨_, rfl, hbc, hcl, p' + 1 + 1, rfl, by omega, by omega⟩
 ·exact pk _ hb hl (by omega) (by omega) (by omega) fun x8 _ _ => ⟨_, rfl, hbc, hcl, p' + 1 + 1, rfl, by omega, by omega⟩
theorem Va (k : Nat) (v : poL) (w : Int) (hv : v.length ≤ 1000) : ∀ (n j : Nat) (f : Bool) (out : poL), j ≤ v.length → v.length - j < n → out.length ≤ 2 * j → ∃ r : poL, Hr k v w n f (j : Int) out (v, (j : Int)) = some (r, true) ∧ r.length ≤ out.length + (v.length - j) + cond f 0 1 ∧ ∀ p ∈ r, p ∈ out ∨ p ∈ v ∨ p = (w, [])
 | 0, j, f, out, _, h, _ => by omega
 | n + 1, j, f, out, hj, h, ho => by
  rw [Hr]
  unfold Lw Ix; (try dsimp only [Ax, Be])
  rcases Nat.lt_or_ge j v.length with hlt | hge
  ·have d1 : decide ((j : Int) < ((v.length : Nat) : Int)) = true := decide_eq_true (by omega)
   have d0 : decide ((0 : Int) ≤ ((j : Nat) : Int)) = true := decide_eq_true (by omega)
   have e9 : (j : Int) + 1 = ((j + 1 : Nat) : Int) := by omega
   have t1 : decide (((j : Int).toNat : Int) = (j : Int)) = true := decide_eq_true (by omega)
   have t2 : (!decide (((j : Int).toNat : Int) < (j : Int))) = true := by rw [decide_eq_false (by omega)]; rfl
   have hm := List.getElem_mem hlt
   rw [Ap v j hlt, Gv j (by omega), e9]
   have step : ∀ f : Bool, ∃ r : poL, Hr k v w n f ((j + 1 : Nat) : Int) (out ++ [v[j]]) (v, ((j + 1 : Nat) : Int)) = some (r, true) ∧ r.length ≤ out.length + (v.length - j) + cond f 0 1 ∧ ∀ p ∈ r, p ∈ out ∨ p ∈ v ∨ p = (w, []) := fun f => by
    obtain ⟨r, h1, h2, h3⟩ := Va k v w hv n (j + 1) f (out ++ [v[j]]) hlt (by omega) (by simp; omega)
    refine ⟨r, h1, by simp only [List.length_append, List.length_singleton] at h2; omega, fun p hp => ?_⟩
    rcases h3 p hp with h4 | h4
    ·rcases List.mem_append.1 h4 with h4 | h4
     ·exact .inl h4
     ·obtain rfl := List.mem_singleton.1 h4
      exact .inr (.inl hm)
    ·exact .inr h4
   cases f with
   | true =>
    obtain ⟨r, h1, h2, h3⟩ := step true
    exact ⟨r, (ct d1).trans ((cf rfl).trans ((ct d0).trans ((ct d1).trans ((ct t1).trans ((ct (decide_eq_true (by show (out.length + 1) * 32 ≤ 140737488355328; omega))).trans h1))))), h2, h3⟩
   | false =>
    by_cases c : @LT.lt Int _ w v[j].1
    ·obtain ⟨r, h1, h2, h3⟩ := Va k v w hv n (j + 1) true ((out ++ [(w, [])]) ++ [v[j]]) hlt (by omega) (by simp; omega)
     refine ⟨r, (ct d1).trans ((ct rfl).trans ((ct d0).trans ((ct d1).trans ((ct t2).trans ((ct (decide_eq_true c)).trans ((ct (decide_eq_true (by show (out.length + 1) * 32 ≤ 140737488355328; omega))).trans ((ct d0).trans ((ct d1).trans ((ct t1).trans ((ct (decide_eq_true (by rw [List.length_append]; show (out.length + 1 + 1) * 32 ≤ 140737488355328; omega))).trans h1)))))))))), ?_, fun p hp => ?_⟩
     ·simp only [List.length_append, List.length_singleton, cond_true] at h2
      simp only [cond_false]
      omega
     ·rcases h3 p hp with h4 | h4
      ·rcases List.mem_append.1 h4 with h4 | h4
       ·rcases List.mem_append.1 h4 with h4 | h4
        ·exact .inl h4
        ·exact .inr (.inr (List.mem_singleton.1 h4))
       ·obtain rfl := List.mem_singleton.1 h4
        exact .inr (.inl hm)
      ·exact .inr h4
    ·obtain ⟨r, h1, h2, h3⟩ := step false
     exact ⟨r, (ct d1).trans ((ct rfl).trans ((ct d0).trans ((ct d1).trans ((ct t2).trans ((cf (decide_eq_false c)).trans ((ct d0).trans ((ct d1).trans ((ct t1).trans ((ct (decide_eq_true (by show (out.length + 1) * 32 ≤ 140737488355328; omega))).trans h1))))))))), h2, h3⟩
  ·have : j = v.length := by omega
   subst this
   have d9 : decide (((v.length : Nat) : Int) < ((v.length : Nat) : Int)) = false := decide_eq_false (by omega)
   cases f with
   | true => exact ⟨out, (cf d9).trans ((cf rfl).trans rfl), by simp, fun p hp => .inl hp⟩
   | false =>
    refine ⟨out ++ [(w, [])], (cf d9).trans ((ct rfl).trans ((ct (decide_eq_true (by show (out.length + 1) * 32 ≤ 140737488355328; omega))).trans rfl)), by simp, fun p hp => ?_⟩
    rcases List.mem_append.1 hp with hp | hp
    ·exact .inl hp
    ·exact .inr (.inr (List.mem_singleton.1 hp))
theorem X1q (q : Nat) {v : poL} (w : Int) (hs : Sm3 v) (hk : 1048576 < q + 4) : Sm (Xlf (q + 4) v w) fun z => Sm3 z.1 := by
 have hvl := hs.a
 obtain ⟨b, s1, _, s3⟩ := Xov (q + 4) v (by omega) hk
 have i1 := Bj (q + 4) w 1 255
 have c1 := Q6 (q + 4) v hs.sh hk
 have l1 := Xjr (q + 4) v w (by omega) hk
 unfold Xlf Xah; (try dsimp only)
 cases b with
 | false => exact ⟨_, (bs s1).trans ((ct rfl).trans rfl), Sm3.nil⟩
 | true =>
  have S := s3 rfl
  cases hw : inB w 1 255 with
  | false =>
   rw [hw] at i1
   exact ⟨_, (bs s1).trans ((cf rfl).trans ((bs i1).trans ((ct rfl).trans rfl))), Sm3.nil⟩
  | true =>
   rw [hw] at i1
   by_cases a : Zi w v 0 ≥ 0
   ·exact ⟨(v, false), (bs s1).trans ((cf rfl).trans ((bs i1).trans ((cf rfl).trans ((bs l1).trans ((ct (decide_eq_true a)).trans ((bs c1).trans rfl)))))), hs⟩
   ·by_cases a4 : v.length = 4
    ·exact ⟨(v, false), (bs s1).trans ((cf rfl).trans ((bs i1).trans ((cf rfl).trans ((bs l1).trans ((cf (decide_eq_false a)).trans ((ct (by rw [a4]; rfl)).trans ((bs c1).trans rfl))))))), hs⟩
    ·obtain ⟨r, h1, h2, h3⟩ := Va (q + 4) v w (by omega) (q + 4) 0 false [] (Nat.zero_le _) (by omega) (by simp)
     refine ⟨(r, true), (bs s1).trans ((cf rfl).trans ((bs i1).trans ((cf rfl).trans ((bs l1).trans ((cf (decide_eq_false a)).trans ((cf (beq_eq_false_iff_ne.2 (by omega))).trans ((bs c1).trans h1))))))), ?_, fun p hp => ?_, fun p hp => ?_⟩
     ·have := S.len
      simp only [List.length_nil, cond_false] at h2
      show r.length ≤ 5
      omega
     ·rcases h3 p hp with h4 | h4 | rfl
      ·cases h4
      ·exact hs.b p h4
      ·simp
     ·rcases h3 p hp with h4 | h4 | rfl
      ·cases h4
      ·exact hs.c p h4
      ·intro m hm; cases hm
theorem Yej (q : Nat) {v : poL} (hs : Sm3 v) {m : den Bd} (hb : BOk m.2.2.2) (hk : 1048576 < q + 4) : ∃ (x : A4) (r : poL × Int), F82 (q + 4) m 3 = some x ∧ F83 (q + 4) v 3 (m.1, 3, 2, 0, 0, 0, false, false, x) = some r ∧ Sm3 r.1 := by
 have hvl := hs.a
 obtain ⟨b, s1, s2, s3⟩ := Xov (q + 4) v (by omega) hk
 refine ⟨mb m 3, ?_⟩
 have m1 := Xu1 q m 3 hb hk
 cases b with
 | false =>
  refine ⟨([], 0), m1, ?_, Sm3.nil⟩
  unfold F83 Wb; (try dsimp only [Ax, Be, Az])
  exact (bs s1).trans ((ct rfl).trans rfl)
 | true =>
  have S := s3 rfl
  cases ho : Qw m with
  | false =>
   have e : mb m 3 = [] := by unfold mb; rw [ho, Bool.false_and]; rfl
   rw [e] at m1 ⊢
   exact ⟨(v, 0), m1, (T8 q S s1 s2 m.1 3 0 hk).1, hs⟩
  | true =>
   have e : mb m 3 = M0 m 3 := by unfold mb; rw [ho]; rfl
   rw [e] at m1 ⊢
   obtain ⟨h1, _, h3⟩ := Sj q S s1 s2 m (t := 3) (h := 0) ho (by decide) hb (by omega) hk
   exact ⟨Jv v m, m1, h1, h3⟩
theorem Xow (q : Nat) (a0 : A4 × Int) (a1 : Int) {b : A4} (hb : BOk b) (hl : b.length ≤ 2000) (hk : 1048576 < q + 4) : ∀ (n c : Nat) (p : Int) (m : poL), c < n → c ≤ 8 → 0 ≤ p → p + 50 * (c : Int) ≤ 800000 → Sm3 m →
  Sm (My (q + 4) a0 a1 n (c : Int) (b, p) m) fun z => ShO z.1 ∧ ∃ p' : Int, z.2 = (b, p') ∧ 0 ≤ p' ∧ p' ≤ p + 50 * (c : Int) + 100
 | 0, c, p, m, h, _, _, _, _ => by omega
 | n + 1, 0, p, m, h, hc, hp, hp2, hs => by
  rw [My]
  unfold Kc; (try dsimp only [Be])
  have hml := hs.a
  refine Sm.cf (decide_eq_false (by omega)) ?_
  refine Sm.cond (fun hpos => ?_) (fun _ => ⟨_, rfl, hs.sh, p, rfl, hp, by omega⟩)
  have hpos : 0 < m.length := by have := of_decide_eq_true hpos; omega
  have d1 : decide ((0 : Int) < ((m.length : Nat) : Int)) = true := decide_eq_true (by omega)
  have hat : Ad m 0 = m[0] := Ap m 0 hpos
  have hm0 := List.getElem_mem hpos
  have hb0 := hs.b _ hm0
  rw [hat]
  refine odk _ hb hl (by omega) (by omega) fun o p' h1 h2 => ?_
  refine Sm.cond (fun _ => ?_) (fun _ => ⟨_, rfl, hs.sh, p', rfl, by omega, by omega⟩)
  refine pk _ hb hl (by omega) (by omega) (by omega) fun x _ _ => ?_
  refine Sm.cond (fun _ => ?_) (fun _ => Sm.cond (fun _ => ?_) (fun _ => ?_))
  ·refine Sm.ct d1 (Sm.ct (decide_eq_true (by show (m.length + 1) * 32 ≤ 140737488355328; omega)) ⟨_, rfl, ?_, p' + 1, rfl, by omega, by omega⟩)
   refine ⟨by rw [List.length_append]; show m.length + 1 ≤ 1000; omega, fun y hy => ?_, fun y hy => ?_⟩
   ·rcases List.mem_append.1 hy with hy | hy
    ·exact hs.sh.b y hy
    ·obtain rfl := List.mem_singleton.1 hy
     exact hs.sh.b _ hm0
   ·rcases List.mem_append.1 hy with hy | hy
    ·exact hs.sh.c y hy
    ·obtain rfl := List.mem_singleton.1 hy
     exact hs.sh.c _ hm0
  ·refine Sm.ct d1 ((Xs3 q hb hl hk (by omega) (by omega)).bind fun z hz => ?_)
   obtain ⟨y, s⟩ := z
   obtain ⟨_, hyl, p2, e2, h3, h4⟩ := hz
   dsimp only at hyl e2
   subst e2
   refine Sm.ct (decide_eq_true (by show (m[0].2.length + 1) * 48 ≤ 140737488355328; omega)) (Sm.ct d1 (Sm.ct rfl ⟨_, rfl, ?_, p2, rfl, by omega, by omega⟩))
   refine ⟨by rw [List.length_set]; show m.length ≤ 1000; omega, fun y' hy => ?_, fun y' hy => ?_⟩
   ·rcases List.mem_or_eq_of_mem_set hy with hy | rfl
    ·exact hs.sh.b y' hy
    ·show (m[0].2 ++ [y]).length ≤ 1000
     rw [List.length_append, List.length_singleton]; omega
   ·rcases List.mem_or_eq_of_mem_set hy with hy | rfl
    ·exact hs.sh.c y' hy
    ·intro z hz
     rcases List.mem_append.1 hz with hz | hz
     ·exact hs.sh.c _ hm0 z hz
     ·obtain rfl := List.mem_singleton.1 hz
      omega
  ·refine pk _ hb hl (by omega) (by omega) (by omega) fun x2 _ _ => ?_
   refine Sm.ct d1 ⟨_, rfl, ?_, p' + 1 + 1, rfl, by omega, by omega⟩
   refine ⟨by rw [List.length_set]; show m.length ≤ 1000; omega, fun y' hy => ?_, fun y' hy => ?_⟩
   ·rcases List.mem_or_eq_of_mem_set hy with hy | rfl
    ·exact hs.sh.b y' hy
    ·exact hs.sh.b m[0] hm0
   ·rcases List.mem_or_eq_of_mem_set hy with hy | rfl
    ·exact hs.sh.c y' hy
    ·exact hs.sh.c m[0] hm0
 | n + 1, c + 1, p, m, h, hc, hp, hp2, hs => by
  rw [My]
  unfold Kc; (try dsimp only [Be])
  have e : IntKind.i64.wrap (((c + 1 : Nat) : Int) - 1) = (c : Int) := by rw [i64_in _ (by omega)]; omega
  rw [e]
  refine Sm.ct (decide_eq_true (by omega)) ((Xs3 q hb hl hk hp (by omega)).bind fun z hz => ?_)
  obtain ⟨y, s⟩ := z
  obtain ⟨hyb, _, p2, e2, h3, h4⟩ := hz
  dsimp only at hyb e2
  subst e2
  obtain ⟨x, r, m1, r1, hr⟩ := Yej q hs hyb hk
  obtain ⟨z, z1, z2, p3, z3, z4, z5⟩ := Xow q a0 a1 hb hl hk n c p2 r.1 (by omega) (by omega) (by omega) (by omega) hr
  exact ⟨z, (bs m1).trans ((bs r1).trans z1), z2, p3, z3, z4, by omega⟩
theorem Xrn (q : Nat) (a0 : A4 × Int) (a1 : Int) {b : A4} (hb : BOk b) (hl : b.length ≤ 2000) (hk : 1048576 < q + 4) : ∀ (n c : Nat) (p : Int) (m : poL), c < n → c ≤ 8 → 0 ≤ p → p + 50 * (c : Int) ≤ 500000 → Sm3 m →
  Sm (Mr (q + 4) a0 a1 n (c : Int) (b, p) m) fun z => ShO z.1 ∧ ∃ p' : Int, z.2 = (b, p') ∧ 0 ≤ p' ∧ p' ≤ p + 50 * (c : Int) + 600
 | 0, c, p, m, h, _, _, _, _ => by omega
 | n + 1, 0, p, m, h, hc, hp, hp2, hs => by
  rw [Mr]
  unfold Jb; (try dsimp only)
  refine Sm.cf (decide_eq_false (by omega)) (pk _ hb hl (by omega) (by omega) (by omega) fun x a x8 => ?_)
  obtain ⟨c, rfl⟩ := Int.eq_ofNat_of_zero_le a
  obtain ⟨z, z1, z2, p3, z3, z4, z5⟩ := Xow q a0 a1 hb hl hk (q + 4) c (p + 1) m (by omega) (by omega) (by omega) (by omega) hs
  exact ⟨z, z1, z2, p3, z3, z4, by omega⟩
 | n + 1, c + 1, p, m, h, hc, hp, hp2, hs => by
  rw [Mr]
  unfold Jb; (try dsimp only)
  have e : IntKind.i64.wrap (((c + 1 : Nat) : Int) - 1) = (c : Int) := by rw [i64_in _ (by omega)]; omega
  rw [e]
  refine Sm.ct (decide_eq_true (by omega)) (pk _ hb hl (by omega) (by omega) (by omega) fun x a x8 => ?_)
  refine (X1q q _ hs hk).bind fun r hr => ?_
  obtain ⟨z, z1, z2, p3, z3, z4, z5⟩ := Xrn q a0 a1 hb hl hk n c (p + 1) r.1 (by omega) (by omega) (by omega) (by omega) hr
  exact ⟨z, z1, z2, p3, z3, z4, by omega⟩
theorem X8o (q : Nat) (a1 : Int) {b : A4} (hb : BOk b) (hl : b.length ≤ 2000) (hk : 1048576 < q + 4) : Sm (F76 (q + 4) (b, 0) a1) fun z => ShO z.1 ∧ ∃ p' : Int, z.2 = (b, p') ∧ 0 ≤ p' ∧ p' ≤ 1000 := by
 unfold F76 Xjl; (try dsimp only)
 refine pk _ hb hl (by omega) (by omega) (by omega) fun x a x6 => ?_
 obtain ⟨c, rfl⟩ := Int.eq_ofNat_of_zero_le a
 obtain ⟨z, z1, z2, p3, z3, z4, z5⟩ := Xrn q (b, 0) a1 hb hl hk (q + 4) c (0 + 1) [] (by omega) (by omega) (by omega) (by omega) Sm3.nil
 exact ⟨z, z1, z2, p3, z3, z4, by omega⟩
theorem Ydu (q : Nat) {b : A4} (hb : BOk b) (hk : 1048576 < q + 4) : ∃ (v : poL) (w : E0) (p t : Int) (o : den Bd), F26 (q + 4) b = some (v, w, p, t, o) ∧ ShO v ∧ Xqj w ∧ (10 ≤ t ∧ t ≤ 15) ∧ BOk o.2.2.2 ∧ o.2.2.2.length ≤ 41 := by
 have main : Sm (F26 (q + 4) b) fun z => ShO z.1 ∧ Xqj z.2.1 ∧ (10 ≤ z.2.2.2.1 ∧ z.2.2.2.1 ≤ 15) ∧ BOk z.2.2.2.2.2.2.2 ∧ z.2.2.2.2.2.2.2.length ≤ 41 := by
  obtain ⟨b', e, hb', hl⟩ := Xzt (q + 4) b hb
  unfold F26 Xjt; (try dsimp only)
  rw [e, Option.bind_some]
  refine (X8o q 20 hb' hl hk).bind fun z hz => ?_
  obtain ⟨v, s⟩ := z
  obtain ⟨hv, p1, e1, h0, h1⟩ := hz
  dsimp only at hv e1
  subst e1
  refine (X4t q 20 hb' hl hk (p := p1) ⟨h0, h1⟩).bind fun z hz => ?_
  obtain ⟨w, s⟩ := z
  obtain ⟨hw, p2, e2, h2, h3⟩ := hz
  dsimp only at hw e2
  subst e2
  obtain ⟨r, er, _, _⟩ := Yh (q + 4) b' hb' hl p2 (w.length : Int) h2 (by omega)
  dsimp only
  rw [er, Option.bind_some]
  refine pk _ hb' hl (by omega) (by omega) (by omega) fun x a x6 => ?_
  refine (Xs3 q hb' hl hk (by omega) (by omega)).bind fun z hz => ?_
  obtain ⟨o, s⟩ := z
  obtain ⟨ho, hol, p3, e3, _, _⟩ := hz
  dsimp only at ho hol e3
  refine ⟨_, rfl, hv, hw, ?_, ho, hol⟩
  dsimp only
  rw [i64_in (10 + x) (by omega)]
  omega
 obtain ⟨⟨v, w, p, t, o⟩, e, h1, h2, h3, h4, h5⟩ := main
 exact ⟨v, w, p, t, o, e, h1, h2, h3, h4, h5⟩
end Go.Proofs.YtdmepjjepogddaaGreat.Gn
end

section
namespace Go.Proofs.YtdmepjjepogddaaGreat.Gn
open Go.Rf Go.IntWalk
set_option linter.unusedVariables false
set_option linter.unusedSimpArgs false
theorem Ybo (q : Nat) {v : poL} (w : E0) (p t : Int) (o : den Bd) (s1 : F80 (q + 4) v = some false) (s2 : F30 (q + 4) v = some false) :
  F28 (q + 4) v w p t o = some ([], 0) ∧ F27 (q + 4) v w p t o = some ([], 0) := by
 unfold F28 Ud F27 Sw; (try dsimp only [Ax, Ek])
 exact ⟨(bs s1).trans ((ct rfl).trans rfl), (bs s2).trans ((ct rfl).trans rfl)⟩
theorem X7x (q : Nat) {v : poL} {w : E0} (p t : Int) (o : den Bd) (S : POK v) (s1 : F80 (q + 4) v = some true) (s2 : F30 (q + 4) v = some true) (n1 : F59 (q + 4) w = some false) (n2 : F31 (q + 4) w = some false) (hk : 1048576 < q + 4) :
  F28 (q + 4) v w p t o = some (v, 0) ∧ F27 (q + 4) v w p t o = some (v, 0) := by
 have c1 := Q6 (q + 4) v S.sh hk
 have c2 := Px (q + 4) v S.sh hk
 unfold F28 Ud F27 Sw; (try dsimp only [Ax, Ek])
 exact ⟨(bs s1).trans ((cf rfl).trans ((bs n1).trans ((ct rfl).trans ((bs c1).trans rfl)))), (bs s2).trans ((cf rfl).trans ((bs n2).trans ((ct rfl).trans ((bs c2).trans rfl))))⟩
theorem X6l (q : Nat) {v : poL} {w : E0} {p : Int} (t : Int) (o : den Bd) (S : POK v) (s1 : F80 (q + 4) v = some true) (s2 : F30 (q + 4) v = some true) (n1 : F59 (q + 4) w = some true) (n2 : F31 (q + 4) w = some true)
  (hp : inB p 0 (IntKind.i64.wrap ((w.length : Int) - 1)) = false) (hk : 1048576 < q + 4) :
  F28 (q + 4) v w p t o = some (v, 0) ∧ F27 (q + 4) v w p t o = some (v, 0) := by
 have c1 := Q6 (q + 4) v S.sh hk
 have c2 := Px (q + 4) v S.sh hk
 have i1 := Bj (q + 4) p 0 (IntKind.i64.wrap ((w.length : Int) - 1))
 have i2 := Cl (q + 4) p 0 (IntKind.i64.wrap ((w.length : Int) - 1))
 rw [hp] at i1 i2
 unfold F28 Ud F27 Sw; (try dsimp only [Ax, Ek])
 exact ⟨(bs s1).trans ((cf rfl).trans ((bs n1).trans ((cf rfl).trans ((bs i1).trans ((ct rfl).trans ((bs c1).trans rfl)))))), (bs s2).trans ((cf rfl).trans ((bs n2).trans ((cf rfl).trans ((bs i2).trans ((ct rfl).trans ((bs c2).trans rfl))))))⟩
theorem Yfg (q : Nat) {v : poL} {w : E0} {a : Nat} (t : Int) {o : den Bd} (hw : w.length ≤ 1048576) (ha : a < w.length) (S : POK v) (s1 : F80 (q + 4) v = some true) (s2 : F30 (q + 4) v = some true) (n1 : F59 (q + 4) w = some true) (n2 : F31 (q + 4) w = some true)
  (ht : inB t 0 65535 = true) (hb : BOk o.2.2.2) {r : A4 × Bool} (r1 : F13 (q + 4) w (a : Int) t 2 0 (mb (w[a].1, o.2) t) = some r) (r2 : F16 (q + 4) w (a : Int) t 2 0 (mb (w[a].1, o.2) t) = some r) (r3 : r = ([], false) ∨ r = (mb (w[a].1, o.2) t, true)) (hk : 1048576 < q + 4) :
  F28 (q + 4) v w (a : Int) t o = some (cond (r.2 && Qw (w[a].1, o.2)) (Jv v (w[a].1, o.2)) (v, 0)) ∧ F27 (q + 4) v w (a : Int) t o = some (cond (r.2 && Qw (w[a].1, o.2)) (Jv v (w[a].1, o.2)) (v, 0)) := by
 have c1 := Q6 (q + 4) v S.sh hk
 have c2 := Px (q + 4) v S.sh hk
 have i1 := Bj (q + 4) (a : Int) 0 (IntKind.i64.wrap ((w.length : Int) - 1))
 have i2 := Cl (q + 4) (a : Int) 0 (IntKind.i64.wrap ((w.length : Int) - 1))
 rw [B4 (show (0 : Int) ≤ (a : Int) ∧ (a : Int) ≤ IntKind.i64.wrap ((w.length : Int) - 1) by rw [i64_in _ (by omega)]; omega)] at i1 i2
 have w1 := Eh (q + 4) t
 rw [ht] at w1
 have d1 : decide ((a : Int) < (w.length : Int)) = true := decide_eq_true (by omega)
 have d0 : decide ((0 : Int) ≤ (a : Int)) = true := decide_eq_true (by omega)
 have hat := Ap w a ha
 generalize hm : ((w[a].1, o.2) : den Bd) = m at *
 have hbm : BOk m.2.2.2 := by rw [← hm]; exact hb
 have hm2 : ((w[a].1, o.2.1, o.2.2.1, o.2.2.2) : den Bd) = m := hm
 have hm1 : w[a].1 = m.1 := by rw [← hm]
 have m1 := Xu1 q m t hbm hk
 have m2 := Xgm q m t hbm hk
 have o2 := Xf2 (q + 4) m
 unfold F28 Ud F27 Sw; (try dsimp only [Ax, Ek])
 rw [hat, hm2, hm1]
 rcases r3 with rfl | rfl
 ·refine ⟨(bs s1).trans ((cf rfl).trans ((bs n1).trans ((cf rfl).trans ((bs i1).trans ((cf rfl).trans ((ct d0).trans ((ct d1).trans ((bs m1).trans ((bs r1).trans ((ct rfl).trans ((bs c1).trans rfl))))))))))), (bs s2).trans ((cf rfl).trans ((bs n2).trans ((cf rfl).trans ((bs i2).trans ((cf rfl).trans ((bs w1).trans ((cf rfl).trans ((ct d0).trans ((ct d1).trans ((bs o2).trans ?_))))))))))⟩
  cases ho : Qw m with
  | false => exact (ct rfl).trans ((bs c2).trans rfl)
  | true => exact (cf rfl).trans ((bs m2).trans ((bs r2).trans ((ct rfl).trans ((bs c2).trans rfl))))
 ·cases ho : Qw m with
  | false =>
   rw [ho] at o2
   have e : mb m t = [] := by unfold mb; rw [ho, Bool.false_and]; rfl
   rw [e] at m1 r1
   have h1 := (T8 q S s1 s2 m.1 t 0 hk).1
   exact ⟨(bs s1).trans ((cf rfl).trans ((bs n1).trans ((cf rfl).trans ((bs i1).trans ((cf rfl).trans ((ct d0).trans ((ct d1).trans ((bs m1).trans ((bs r1).trans ((cf rfl).trans ((bs h1).trans rfl))))))))))), (bs s2).trans ((cf rfl).trans ((bs n2).trans ((cf rfl).trans ((bs i2).trans ((cf rfl).trans ((bs w1).trans ((cf rfl).trans ((ct d0).trans ((ct d1).trans ((bs o2).trans ((ct rfl).trans ((bs c2).trans rfl))))))))))))⟩
  | true =>
   rw [ho] at o2
   have e : mb m t = M0 m t := by unfold mb; rw [ho, ht]; rfl
   rw [e] at m1 m2 r1 r2
   obtain ⟨h1, _, h3⟩ := Sj q S s1 s2 m (h := 0) ho ht hbm (by omega) hk
   obtain ⟨_, h2, _⟩ := Sj q S s1 s2 m (h := 64) ho ht hbm (by omega) hk
   exact ⟨(bs s1).trans ((cf rfl).trans ((bs n1).trans ((cf rfl).trans ((bs i1).trans ((cf rfl).trans ((ct d0).trans ((ct d1).trans ((bs m1).trans ((bs r1).trans ((cf rfl).trans ((bs h1).trans rfl))))))))))), (bs s2).trans ((cf rfl).trans ((bs n2).trans ((cf rfl).trans ((bs i2).trans ((cf rfl).trans ((bs w1).trans ((cf rfl).trans ((ct d0).trans ((ct d1).trans ((bs o2).trans ((cf rfl).trans ((bs m2).trans ((bs r2).trans ((cf rfl).trans ((bs h2).trans rfl)))))))))))))))⟩
theorem Xtq (k : Nat) (m : den Bd) : F84 k m m = some true := by
 have sb : F23 k m.2.2.2 m.2.2.2 = some true := by unfold F23; (try dsimp only); simp
 unfold F84 Xi9; (try dsimp only)
 exact (ct (beq_self_eq_true _)).trans ((ct (beq_self_eq_true _)).trans ((ct (beq_self_eq_true _)).trans ((bs sb).trans rfl)))
theorem Xla (k : Nat) (v : poL) (i : Nat) (hi : i < v.length) (hr : v[i].2.length ≤ 1000) : ∀ (n j : Nat), j ≤ v[i].2.length → v[i].2.length - j < n → Qb k v v n (i : Int) (j : Int) = some (.inr ((i : Int), ((v[i].2.length : Nat) : Int)))
 | 0, j, _, h => by omega
 | n + 1, j, hj, h => by
  rw [Qb]
  unfold Ox; (try dsimp only [Ax])
  have i1 : decide ((i : Int) < ((v.length : Nat) : Int)) = true := decide_eq_true (by omega)
  have i0 : decide ((0 : Int) ≤ ((i : Nat) : Int)) = true := decide_eq_true (by omega)
  rw [Ap v i hi]
  rcases Nat.lt_or_ge j v[i].2.length with hlt | hge
  ·have d1 : decide ((j : Int) < ((v[i].2.length : Nat) : Int)) = true := decide_eq_true (by omega)
   have d0 : decide ((0 : Int) ≤ ((j : Nat) : Int)) = true := decide_eq_true (by omega)
   have ih := Xla k v i hi hr n (j + 1) hlt (by omega)
   have e := Xtq k v[i].2[j]
   rw [Ap v[i].2 j hlt, Gv j (by omega)]
   exact (ct i0).trans ((ct i1).trans ((ct d1).trans ((ct i0).trans ((ct i1).trans ((ct d0).trans ((ct d1).trans ((ct i0).trans ((ct i1).trans ((ct d0).trans ((ct d1).trans ((bs e).trans ((cf rfl).trans ih))))))))))))
  ·have : j = v[i].2.length := by omega
   subst this
   exact (ct i0).trans ((ct i1).trans ((cf (decide_eq_false (by omega))).trans rfl))
theorem R8 (k : Nat) (v : poL) (hs : ShO v) (hk : 1048576 < k) : ∀ (n j : Nat), j ≤ v.length → v.length - j < n → Nb k v v n (j : Int) = some true
 | 0, j, _, h => by omega
 | n + 1, j, hj, h => by
  rw [Nb]
  have := hs.a
  rcases Nat.lt_or_ge j v.length with hlt | hge
  ·have d1 : decide ((j : Int) < ((v.length : Nat) : Int)) = true := decide_eq_true (by omega)
   have d0 : decide ((0 : Int) ≤ ((j : Nat) : Int)) = true := decide_eq_true (by omega)
   have hb := hs.b _ (List.getElem_mem hlt)
   have r1 := Xla k v j hlt hb k 0 (Nat.zero_le _) (by omega)
   have ih := R8 k v hs hk n (j + 1) hlt (by omega)
   rw [Ap v j hlt]
   refine (ct d1).trans ((ct d0).trans ((ct d1).trans ((ct d0).trans ((ct d1).trans ((cf (bne_self_eq_false _)).trans ((ct d0).trans ((ct d1).trans ((ct d0).trans ((ct d1).trans ((cf (bne_self_eq_false _)).trans ((bs r1).trans ?_)))))))))))
   show Nb k v v n (IntKind.i64.wrap ((j : Int) + 1)) = some true
   rw [Gv j (by omega)]
   exact ih
  ·have : j = v.length := by omega
   subst this
   exact (cf (decide_eq_false (by omega))).trans rfl
theorem S6 (k : Nat) (v : poL) (hs : ShO v) (hk : 1048576 < k) : F29 k v v = some true := by
 have := hs.a
 unfold F29 Xjf; (try dsimp only)
 exact (cf (bne_self_eq_false _)).trans (R8 k v hs hk k 0 (Nat.zero_le _) (by omega))
end Go.Proofs.YtdmepjjepogddaaGreat.Gn
end

section
namespace Go.Proofs.YtdmepjjepogddaaGreat.Gn
open Go.Rf Go.IntWalk
set_option linter.unusedVariables false
set_option linter.unusedSimpArgs false
theorem Xpk (q : Nat) {b : A4} (hb : BOk b) (hk : 1048576 < q + 4) : F5 (q + 4) b = some true := by
 unfold F5 X03; (try dsimp only [Ax])
 by_cases c0 : (b.length : Int) > 1048576
 ·exact (ct (decide_eq_true c0)).trans rfl
 refine (cf (decide_eq_false c0)).trans ?_
 obtain ⟨v, w, p, t, o, e, hv, hw, ht, hbo, hol⟩ := Ydu q hb hk
 have hva := hv.a
 have hs := Xbx (n := 6) hw.1 hw.2
 have hwl : w.length ≤ 1048576 := by have := hw.1; omega
 have al := X1k (q + 4) (by omega)
 have htw : inB t 0 65535 = true := B4 ⟨by omega, by omega⟩
 obtain ⟨c, s1, s2, s3⟩ := Xov (q + 4) v (by omega) hk
 have z0 : ∀ x : Int, (x != x) = false := fun x => bne_self_eq_false x
 have z1 : ∀ x : Int, (x == x) = true := fun x => beq_self_eq_true x
 have sn := S6 (q + 4) [] Sm3.nil.sh hk
 have sv := S6 (q + 4) v hv hk
 cases c with
 | false =>
  obtain ⟨t1, t2⟩ := Ybo q w p t o s1 s2
  exact (bs e).trans ((bs t2).trans ((bs t1).trans ((cf (z0 0)).trans ((bs sn).trans ((cf rfl).trans ((bs s2).trans ((ct rfl).trans ((ct rfl).trans ((bs al).trans rfl)))))))))
 | true =>
  have S := s3 rfl
  obtain ⟨d, n1, n2, n3⟩ := Xfk q w hwl (by omega) hk
  cases d with
  | false =>
   obtain ⟨t1, t2⟩ := X7x q p t o S s1 s2 n1 n2 hk
   exact (bs e).trans ((bs t2).trans ((bs t1).trans ((cf (z0 0)).trans ((bs sv).trans ((cf rfl).trans ((bs s2).trans ((cf rfl).trans ((bs n2).trans ((ct rfl).trans ((ct rfl).trans ((bs al).trans rfl)))))))))))
  | true =>
   obtain ⟨m, m1, m0, m2⟩ := Xxs q w p t hwl (by omega) hk
   by_cases hz : (F28 (q + 4) v w p t o = some (v, 0) ∧ F27 (q + 4) v w p t o = some (v, 0)) ∧ m = 0
   ·obtain ⟨⟨t1, t2⟩, hm0⟩ := hz
    rw [hm0] at m1
    exact (bs e).trans ((bs t2).trans ((bs t1).trans ((cf (z0 0)).trans ((bs sv).trans ((cf rfl).trans ((bs s2).trans ((cf rfl).trans ((bs n2).trans ((cf rfl).trans ((bs m1).trans ((ct rfl).trans ((ct rfl).trans ((bs sv).trans ((ct rfl).trans ((bs al).trans rfl)))))))))))))))
   cases hp : inB p 0 (IntKind.i64.wrap ((w.length : Int) - 1)) with
   | false =>
    refine absurd ⟨X6l q t o S s1 s2 n1 n2 hp hk, ?_⟩ hz
    by_cases c : m > 0
    ·obtain ⟨_, _, a, ea, ha, _⟩ := m2.1 c
     rw [i64_in _ (by omega), B4 (by omega)] at hp
     cases hp
    ·omega
   | true =>
    rw [i64_in _ (by omega)] at hp
    have hp := A7 hp
    obtain ⟨a, rfl⟩ : ∃ i : Nat, p = (i : Int) := ⟨p.toNat, by omega⟩
    have ha : a < w.length := by omega
    have hbm : BOk (((w[a].1, o.2) : den Bd)).2.2.2 := hbo
    obtain ⟨k1, k2⟩ := Yew (m := (w[a].1, o.2)) (t := t) hbm
    obtain ⟨r, r1, r2, r3, _, r5⟩ := Xhm q (a : Int) t 2 0 hwl (by omega) k1 (by omega) hk
    have mc := Yfg q t hwl ha S s1 s2 n1 n2 htw hbo r1 r2 r3 hk
    by_cases c : m > 0
    ·obtain ⟨_, _, a', ea, _, hr⟩ := m2.1 c
     have r2t : r.2 = true := r5.2 ⟨n1, by omega, htw, by decide, by decide, a, rfl, ha, by
      have : a' = a := by omega
      rw [← this]; exact hr⟩
     rw [r2t, Bool.true_and] at mc
     obtain ⟨t1, t2⟩ := mc
     have mb2 := Xgm q (w[a].1, o.2) t hbm hk
     have d1 : decide ((a : Int) < (w.length : Int)) = true := decide_eq_true (by omega)
     have d0 : decide ((0 : Int) ≤ (a : Int)) = true := decide_eq_true (by omega)
     have hat := Ap w a ha
     have mz : (m == 0) = false := beq_eq_false_iff_ne.2 (by omega)
     have key : ∃ x : poL × Int, cond (Qw (w[a].1, o.2)) (Jv v (w[a].1, o.2)) (v, 0) = x ∧ ShO x.1 ∧ F32 (q + 4) v t (w[a].1, t, 2, 0, 0, 0, false, false, mb (w[a].1, o.2) t) = some x := by
      cases ho : Qw (w[a].1, o.2) with
      | false =>
       have e : mb (w[a].1, o.2) t = [] := by unfold mb; rw [ho, Bool.false_and]; rfl
       rw [e]
       exact ⟨_, rfl, hv, (T8 q S s1 s2 w[a].1 t 0 hk).2⟩
      | true =>
       have e : mb (w[a].1, o.2) t = M0 (w[a].1, o.2) t := by unfold mb; rw [ho, htw]; rfl
       rw [e]
       obtain ⟨_, h2, h3⟩ := Sj q S s1 s2 (w[a].1, o.2) (h := 0) ho htw hbm (by omega) hk
       exact ⟨_, rfl, h3.sh, h2⟩
     obtain ⟨x, x1, x2, x3⟩ := key
     rw [x1] at t1 t2
     have sx := S6 (q + 4) x.1 x2 hk
     refine (bs e).trans ((bs t2).trans ((bs t1).trans ((cf (z0 x.2)).trans ((bs sx).trans ((cf rfl).trans ((bs s2).trans ((cf rfl).trans ((bs n2).trans ((cf rfl).trans ((bs m1).trans ((cf mz).trans ((ct d0).trans ((ct d1).trans ?_)))))))))))))
     dsimp only
     rw [hat]
     exact (bs mb2).trans ((bs x3).trans ((ct (z1 x.2)).trans ((bs sx).trans ((ct rfl).trans ((bs al).trans rfl)))))
    ·have r2f : r.2 = false := by
      cases hr : r.2 with
      | false => rfl
      | true =>
       obtain ⟨h1, _, h3, _, _, h6⟩ := r5.1 hr
       exact absurd (m2.2 ⟨h1, h3, h6⟩) c
     rw [r2f, Bool.false_and] at mc
     exact absurd ⟨mc, by omega⟩ hz
theorem Ybx (b : A4) (hb : Wf (.sl (.int .u8)) b) (hy : b.length * 1 ≤ 140737488351232) :
  ∃ k, (∀ b : A4, Contract Tryz.prog 5 [.one (.l (.s .ro (.int .u8) b))] ⟨F5 k b, fun r => (.one (.v (.bool r)), [])⟩) ∧ F5 k b = some true :=
 ⟨1048600 + 4, fun b => (F5_q (1048600 + 4)).con (b, ()), Xpk 1048600 (BOk.of hb) (by omega)⟩
end Go.Proofs.YtdmepjjepogddaaGreat.Gn
end

section
namespace Go.Proofs.YtdmepjjepogddaaGreat.fnMailCarried
open Go Go.Proofs.YtdmepjjepogddaaGreat
noncomputable abbrev jP : Program := Tryz.pinned.checked.prog
noncomputable abbrev jn : Func := Tryz.f5
noncomputable abbrev js : ChangeSpec := Rows.fnMailCarriedSpec
noncomputable abbrev jc : OpenClaim := Rows.fnMailCarriedRow
theorem B1 {a b : Bool} (h : a = true) (g : b = true) : (a && b) = true := by rw [h, g]; rfl
theorem j0 : (jc.wf (OpenSpec.ofChange js)) = true := by kernel_rfl
theorem j1 : (laidOutB jP) = true := by kernel_rfl
theorem j2 : (mapsRowed jP) = true := by kernel_rfl
theorem j3 : (jn.params.all (jP.readableRec ·)) = true := by kernel_rfl
theorem j4 : (namedTie jP jc.named js.vars) = true := by kernel_rfl
theorem j5 : ((jc.stops == [])) = true := by kernel_rfl
theorem j6 : ((jP.stops == [])) = true := by kernel_rfl
theorem j7 : ((jc.knobs == [])) = true := by kernel_rfl
theorem j8 : ((jP.stopKnobs == [])) = true := by kernel_rfl
theorem j9 : ((jc.inPlace == jP.inPlace 5)) = true := by kernel_rfl
theorem j10 : ((jc.unfollowed == jP.unfollowed 5)) = true := by kernel_rfl
theorem j11 : ((jc.recurses == jP.recurses 5)) = true := by kernel_rfl
theorem j12 : ((jc.named == jP.varsNamed 5)) = true := by kernel_rfl
theorem j13 : ((jc.maps == (jn.params.toList ++ js.plain.varTypes jP).any (jP.mapsRec ·))) = true := by kernel_rfl
theorem j14 : ((jc.ifaces == (jn.params.toList ++ js.plain.varTypes jP).any (jP.ifacesRec ·))) = true := by kernel_rfl
theorem j15 : ((jc.mapsOut == jP.mapsAmong jn.resultTypes.toList)) = true := by kernel_rfl
theorem j16 : ((jc.loops == (jn.params.toList ++ js.plain.varTypes jP).any (jP.loopsFrom ·))) = true := by kernel_rfl
theorem j17 : ((jc.wideKeys == (jn.params.toList ++ js.plain.varTypes jP ++ jn.resultTypes.toList).any (jP.wideKeysFrom ·))) = true := by kernel_rfl
theorem j18 : (js.vars.all (jP.varReadable ·)) = true := by kernel_rfl
theorem j19 : (jn.resultTypes.all (fun t => jP.readableRec t && decide (t < jP.types.size))) = true := by kernel_rfl
theorem j20 : ((jc.ifacesOut == jn.resultTypes.toList.any (jP.ifacesRec ·))) = true := by kernel_rfl
theorem j21 : ((jc.loopsOut == jn.resultTypes.toList.any (jP.loopsFrom ·))) = true := by kernel_rfl
theorem j22 : ((jc.plainKeys == jP.plainKeys)) = true := by kernel_rfl
theorem j23 : (jc.shortTexts.isNone) = true := by kernel_rfl
theorem j24 : (jP.stopsHeard) = true := by kernel_rfl
theorem j25 : (jP.mayEnter) = true := by kernel_rfl
theorem j26 : ((jc.lifted == jP.liftsFinal)) = true := by kernel_rfl
theorem j27 : ((jP.make == some jc.make)) = true := by kernel_rfl
theorem j28 : ((jc.kinds == (if jc.domain.isEmpty then [] else jn.params.toList.map fun t => match jP.underlying t with | some (.int k) => some k | _ => none))) = true := by kernel_rfl
theorem j29 : ((jc.pinned == jc.pinnedBy)) = true := by kernel_rfl
theorem j30 : ((jc.veiled == (jn.params.toList ++ js.plain.varTypes jP ++ jn.resultTypes.toList).any (jP.veiledRec ·))) = true := by kernel_rfl
theorem j31 : (jc.veiledFits jP jn.params.toList (jn.params.toList ++ js.plain.varTypes jP ++ jn.resultTypes.toList)) = true := by kernel_rfl
end Go.Proofs.YtdmepjjepogddaaGreat.fnMailCarried
end
