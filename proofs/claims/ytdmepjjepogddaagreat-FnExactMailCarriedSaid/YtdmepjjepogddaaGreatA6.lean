/-
  What the proof of this row needs, part 6: the typed evaluator of the translated code, the functions that the law reaches as plain functions, and what they answer.
-/
import Derived.Test.YtdmepjjepogddaaGreatRows
import Derived.JoinedOf
import Derived.KernelRfl
import Derived.Test.YtdmepjjepogddaaGreatA5
section
namespace Go.Proofs.YtdmepjjepogddaaGreat.Gn
open Go.Rf Go.IntWalk
set_option linter.unusedVariables false
set_option linter.unusedSimpArgs false
abbrev We : Type := List (den (.pair (.int .i64) Al))
def nM (d1 : Int) (l : Cw) (m : den Db) : den Db := cond (d1 == 1) (m.1 ++ l, m.2) (cond (d1 == 3) (m.1, m.2.1 ++ l, m.2.2) m)
def nA (d1 t : Int) (n : Nat) (A : Bq) : Bq := cond (d1 == 1) A (cond (d1 == 3) A (cond (decide (t ≥ 0)) (A ++ List.replicate n t) A))
def nR (d1 t : Int) (l : Cw) (R : Cw) : Cw := cond (d1 == 1) R (cond (d1 == 3) R (cond (decide (t ≥ 0)) (R ++ l) R))
theorem X0e (d1 : Int) (a : den Al) (l : Cw) (m : den Db) : nM d1 l (nM d1 [a] m) = nM d1 (a :: l) m := by
 unfold nM
 cases d1 == 1 <;> cases d1 == 3 <;> simp
theorem Xym (d1 t : Int) (n : Nat) (A : Bq) : nA d1 t n (nA d1 t 1 A) = nA d1 t (n + 1) A := by
 unfold nA
 cases d1 == 1 <;> cases d1 == 3 <;> cases decide (t ≥ 0) <;> simp [List.replicate_succ]
theorem X25 (d1 t : Int) (a : den Al) (l : Cw) (R : Cw) : nR d1 t l (nR d1 t [a] R) = nR d1 t (a :: l) R := by
 unfold nR
 cases d1 == 1 <;> cases d1 == 3 <;> cases decide (t ≥ 0) <;> simp
theorem X8b (d1 : Int) (l : Cw) (m : den Db) : (nM d1 l m).1.length ≤ m.1.length + l.length ∧ (nM d1 l m).2.1.length ≤ m.2.1.length + l.length := by
 unfold nM
 cases d1 == 1 <;> cases d1 == 3 <;> simp
theorem Yey (d1 t : Int) (n : Nat) (A : Bq) : (nA d1 t n A).length ≤ A.length + n := by
 unfold nA
 cases d1 == 1 <;> cases d1 == 3 <;> cases decide (t ≥ 0) <;> simp
theorem X7h (d1 t : Int) (l : Cw) (R : Cw) : (nR d1 t l R).length ≤ R.length + l.length := by
 unfold nR
 cases d1 == 1 <;> cases d1 == 3 <;> cases decide (t ≥ 0) <;> simp
theorem V7 (k : Nat) (v : Ks) (w : Int) (p : den Al) (x t : Int) (d : den So) (hl : d.2.2.length ≤ 100) : ∀ (n j : Nat) (m : den Db) (A : Bq) (R : Cw), j ≤ d.2.2.length → d.2.2.length - j < n → m.1.length + (d.2.2.length - j) ≤ 100000 → m.2.1.length + (d.2.2.length - j) ≤ 100000 → A.length + (d.2.2.length - j) ≤ 100000 → R.length + (d.2.2.length - j) ≤ 100000 →
  Qg k v w p n x t (j : Int) m d A R = some (x, t, (d.2.2.length : Int), d, nM d.1 (d.2.2.drop j) m, nA d.1 t (d.2.2.drop j).length A, nR d.1 t (d.2.2.drop j) R)
 | 0, j, m, A, R, _, h, _, _, _, _ => by omega
 | n + 1, j, m, A, R, hj, h, h1, h2, h3, h4 => by
  rw [Qg]
  unfold Oq; (try dsimp only [As, Bt])
  rcases Nat.lt_or_ge j d.2.2.length with hlt | hge
  ·have d1 : decide ((j : Int) < ((d.2.2.length : Nat) : Int)) = true := decide_eq_true (by omega)
   have d0 : decide ((0 : Int) ≤ ((j : Nat) : Int)) = true := decide_eq_true (by omega)
   rw [Ao (t := Al) d.2.2 j hlt, D5 j (by omega), List.drop_eq_getElem_cons hlt]
   have l1 := X8b d.1 [d.2.2[j]] m
   have l2 := Yey d.1 t 1 A
   have l3 := X7h d.1 t [d.2.2[j]] R
   rw [List.length_singleton] at l1 l3
   have ih := V7 k v w p x t d hl n (j + 1) (nM d.1 [d.2.2[j]] m) (nA d.1 t 1 A) (nR d.1 t [d.2.2[j]] R) hlt (by omega) (by omega) (by omega) (by omega) (by omega)
   rw [X0e, Xym, X25] at ih
   refine Eq.trans ?_ ih
   refine (ct d1).trans ?_
   unfold nM nA nR
   have c1 : ((d.1 : Int) == 1) = true ∨ ((d.1 : Int) == 1) = false := by cases ((d.1 : Int) == 1) <;> simp
   rcases c1 with c1 | c1
   ·refine (ct c1).trans ((ct d0).trans ((ct d1).trans ((ct (decide_eq_true (by (try simp only [List.length_singleton]); omega))).trans ?_)))
    rw [c1]
    rfl
   ·have c3 : ((d.1 : Int) == 3) = true ∨ ((d.1 : Int) == 3) = false := by cases ((d.1 : Int) == 3) <;> simp
    rw [c1]
    rcases c3 with c3 | c3
    ·refine (cf rfl).trans ((ct c3).trans ((ct d0).trans ((ct d1).trans ((ct (decide_eq_true (by (try simp only [List.length_singleton]); omega))).trans ?_))))
     rw [c3]
     rfl
    ·rw [c3]
     by_cases ht : t ≥ 0
     ·refine (cf rfl).trans ((cf rfl).trans ((ct (decide_eq_true ht)).trans ((ct (decide_eq_true (by (try simp only [List.length_singleton]); omega))).trans ((ct d0).trans ((ct d1).trans ((ct (decide_eq_true (by (try simp only [List.length_singleton]); omega))).trans ?_))))))
      rw [decide_eq_true ht]
      rfl
     ·refine (cf rfl).trans ((cf rfl).trans ((cf (decide_eq_false ht)).trans ?_))
      rw [decide_eq_false ht]
      rfl
  ·have : j = d.2.2.length := by omega
   subst this
   rw [List.drop_length]
   refine (cf (decide_eq_false (by omega))).trans ?_
   unfold nM nA nR
   cases (d.1 : Int) == 1 <;> cases (d.1 : Int) == 3 <;> cases decide (t ≥ 0) <;> simp
theorem M5 (k : Nat) (v : Ks) (w : Int) (p : den Al) (t : Int) (m : den Db) (ps : Cw) (hl : ps.length ≤ 100) : ∀ (n j : Nat) (Q : We), j ≤ ps.length → ps.length - j < n → Q.length + (ps.length - j) ≤ 100000 →
  Lm k v w p n t (ps.length : Int) (j : Int) m ps Q = some (t, (ps.length : Int), (ps.length : Int), m, ps, Q ++ (ps.drop j).map fun r => (t, r))
 | 0, j, Q, _, h, _ => by omega
 | n + 1, j, Q, hj, h, h1 => by
  rw [Lm]
  unfold Kw; (try dsimp only [As, Bt])
  rcases Nat.lt_or_ge j ps.length with hlt | hge
  ·have d1 : decide ((j : Int) < ((ps.length : Nat) : Int)) = true := decide_eq_true (by omega)
   have d0 : decide ((0 : Int) ≤ ((j : Nat) : Int)) = true := decide_eq_true (by omega)
   rw [Ao (t := Al) ps j hlt, D5 j (by omega), List.drop_eq_getElem_cons hlt]
   refine (ct d1).trans ((ct d0).trans ((ct d1).trans ((ct (decide_eq_true (by rw [List.length_singleton]; omega))).trans ?_)))
   rw [M5 k v w p t m ps hl n (j + 1) _ hlt (by omega) (by rw [List.length_append, List.length_singleton]; omega), List.map_cons, List.append_assoc, List.singleton_append]
  ·have : j = ps.length := by omega
   subst this
   rw [List.drop_length]
   refine (cf (decide_eq_false (by omega))).trans ?_
   simp
theorem Xrt (k : Nat) (v : Cw) (hv : v.length ≤ 100000) (hs : ∀ r ∈ v, r.2.2.2.2.2.2.2.2.length ≤ 1048576) : ∀ (n j : Nat) (m : Cw), j ≤ v.length → v.length - j < n → m.length + (v.length - j) ≤ 100000 → Ll k v n (j : Int) m = some (m ++ v.drop j)
 | 0, j, m, _, h, _ => by omega
 | n + 1, j, m, hj, h, hm => by
  rw [Ll]
  unfold Ky; (try dsimp only [As, Bt])
  rcases Nat.lt_or_ge j v.length with hlt | hge
  ·have d1 : decide ((j : Int) < ((v.length : Nat) : Int)) = true := decide_eq_true (by omega)
   have d0 : decide ((0 : Int) ≤ ((j : Nat) : Int)) = true := decide_eq_true (by omega)
   rw [Ao v j hlt, D5 j (by omega), List.drop_eq_getElem_cons hlt]
   refine (ct d1).trans ((ct d0).trans ((ct d1).trans ((bs (Id k v[j] (hs _ (List.getElem_mem hlt)))).trans ((ct (decide_eq_true (by rw [List.length_singleton]; omega))).trans ?_))))
   rw [Xrt k v hv hs n (j + 1) _ hlt (by omega) (by rw [List.length_append, List.length_singleton]; omega), List.append_assoc, List.singleton_append]
  ·have : j = v.length := by omega
   subst this
   rw [List.drop_length, List.append_nil]
   exact (cf (decide_eq_false (by omega))).trans ((bs (Xj0 k m)).trans rfl)
theorem Ho (k : Nat) (v : Cw) (hv : v.length ≤ 100000) (hs : ∀ r ∈ v, r.2.2.2.2.2.2.2.2.length ≤ 1048576) (hk : 1048576 < k) : Sp k v = some v := by
 have := Xrt k v hv hs k 0 [] (Nat.zero_le _) (by omega) (by simpa using hv)
 unfold Sp Y6; (try dsimp only)
 simpa using this
theorem Ydr {a b : Int} (ha : 1 ≤ a ∧ a ≤ 48) (hb : 0 ≤ b ∧ b ≤ 255) : 1 ≤ a * (b + 1) ∧ a * (b + 1) ≤ 12288 := by
 have h1 := Int.mul_pos (show 0 < a by omega) (show 0 < b + 1 by omega)
 have h2 := Int.mul_le_mul ha.2 (show b + 1 ≤ 256 by omega) (show 0 ≤ b + 1 by omega) (show (0 : Int) ≤ 48 by omega)
 omega
theorem X5y {r : den Al} (h : Lr r = true) : 1 ≤ wt r ∧ wt r ≤ 12288 := by
 obtain ⟨v0, v1, v2, v3, v4, v5, v6, v7, v8⟩ := r
 obtain ⟨_, _, _, h3, _, _, h8, _⟩ := Cy h
 exact Ydr ⟨Xv4 _, by show wl v8.length ≤ 48; unfold wl; split <;> omega⟩ h3
theorem Xxz {r : den Al} (h : Lr r = true) : 1 ≤ wt r := (X5y h).1
theorem Yir {r : den Al} (h : Lr r = true) : wt r ≤ 12288 := (X5y h).2
theorem Xcw {α : Type} (s : α → Int) : ∀ a b : List α, A7 s (a ++ b) = A7 s a + A7 s b
 | [], b => by simp [A7]
 | x :: a, b => by simp only [List.cons_append, A7, Xcw s a b]; omega
theorem Sq : ∀ l : Cw, (∀ r ∈ l, Lr r = true) → (l.length : Int) ≤ A7 wt l
 | [], _ => by simp [A7]
 | r :: l, h => by
  have h1 := Xxz (h r (by simp))
  have h2 := Sq l (fun x hx => h x (by simp [hx]))
  simp only [A7, List.length_cons]
  omega
def TOk (t : den Db) : Prop := t.1.length ≤ 100000 ∧ t.2.1.length ≤ 100000 ∧ (∀ r ∈ t.1, r.2.2.2.2.2.2.2.2.length ≤ 1048576) ∧ (∀ r ∈ t.2.1, r.2.2.2.2.2.2.2.2.length ≤ 1048576)
def stp (t : den Db) : Int := t.2.2
theorem trav (q : Nat) (v : Ks) (w : Int) (p : den Al) (hv : ∀ s ∈ v, StaOk (q + 4) s) (hvl : v.length ≤ 5) (hk : 1048576 < q + 4) : ∀ (c n n' x : Nat) (m : den Db) (A : Bq) (R : Cw), A.length = R.length → x ≤ R.length → (∀ a ∈ A.drop x, @LE.le Int _ 0 a ∧ @LT.lt Int _ a (v.length : Int)) → (∀ r ∈ R.drop x, Lr r = true ∧ BOk r.2.2.2.2.2.2.2.2) →
  A7 wt (R.drop x) ≤ (c : Int) → c < n → c < n' → x + c ≤ 20000 → m.1.length + c ≤ 20000 → m.2.1.length + c ≤ 20000 → (∀ r ∈ m.1, r.2.2.2.2.2.2.2.2.length ≤ 1048576) → (∀ r ∈ m.2.1, r.2.2.2.2.2.2.2.2.length ≤ 1048576) → (0 ≤ stp m ∧ stp m + (c : Int) ≤ 20000) →
  ∃ t : den Db, Ee (q + 4) v w p n (x : Int) m A R = some t ∧ Br (q + 4) v w p n' m (List.zip (A.drop x) (R.drop x)) = some t ∧ TOk t := by
 intro c
 induction c with
 | zero =>
  intro n n' x m A R hAR hx hA hR hs hn hn' hxc hm1 hm2 hl1 hl2 hst
  obtain ⟨n, rfl⟩ : ∃ i, n = i + 1 := ⟨n - 1, by omega⟩
  obtain ⟨n', rfl⟩ : ∃ i, n' = i + 1 := ⟨n' - 1, by omega⟩
  have hlen := Sq (R.drop x) (fun r hr => (hR r hr).1)
  have hdl : (R.drop x).length = R.length - x := List.length_drop
  have e : R.drop x = [] := List.length_eq_zero_iff.1 (by omega)
  rw [Ee, Br, e, List.zip_nil_right]
  refine ⟨m, (cf (decide_eq_false (by omega))).trans rfl, (cf (by rfl)).trans ((bs (Ho _ _ (by omega) hl1 hk)).trans ((bs (Ho _ _ (by omega) hl2 hk)).trans rfl)), by omega, by omega, hl1, hl2⟩
 | succ c ih =>
  intro n n' x m A R hAR hx hA hR hs hn hn' hxc hm1 hm2 hl1 hl2 hst
  obtain ⟨n, rfl⟩ : ∃ i, n = i + 1 := ⟨n - 1, by omega⟩
  obtain ⟨n', rfl⟩ : ∃ i, n' = i + 1 := ⟨n' - 1, by omega⟩
  have hlen := Sq (R.drop x) (fun r hr => (hR r hr).1)
  have hdl : (R.drop x).length = R.length - x := List.length_drop
  rcases Nat.eq_or_lt_of_le hx with hx0 | hxl
  ·have e : R.drop x = [] := List.length_eq_zero_iff.1 (by omega)
   rw [Ee, Br, e, List.zip_nil_right]
   exact ⟨m, (cf (decide_eq_false (by omega))).trans rfl, (cf (by rfl)).trans ((bs (Ho _ _ (by omega) hl1 hk)).trans ((bs (Ho _ _ (by omega) hl2 hk)).trans rfl)), by omega, by omega, hl1, hl2⟩
  ·have hxA : x < A.length := by omega
   have eR : R.drop x = R[x] :: R.drop (x + 1) := List.drop_eq_getElem_cons hxl
   have eA : A.drop x = A[x] :: A.drop (x + 1) := List.drop_eq_getElem_cons hxA
   have ha := hA A[x] (by rw [eA]; exact List.mem_cons_self ..)
   have hr := hR R[x] (by rw [eR]; exact List.mem_cons_self ..)
   have hA' : ∀ a ∈ A.drop (x + 1), @LE.le Int _ 0 a ∧ @LT.lt Int _ a (v.length : Int) := fun a h => hA a (by rw [eA]; exact List.mem_cons_of_mem _ h)
   have hR' : ∀ r ∈ R.drop (x + 1), Lr r = true ∧ BOk r.2.2.2.2.2.2.2.2 := fun r h => hR r (by rw [eR]; exact List.mem_cons_of_mem _ h)
   have hlen' := Sq (R.drop (x + 1)) (fun r hr => (hR' r hr).1)
   rw [eR] at hs
   simp only [A7] at hs
   obtain ⟨a, hae⟩ : ∃ a : Int, a = A[x] := ⟨_, rfl⟩
   have hd1 : ((R.drop (x + 1)).length : Int) = (R.length : Int) - (x : Int) - 1 := by rw [List.length_drop]; omega
   have gA : Ac A (x : Int) = A[x] := Ao A x hxA
   have gR : Ac R (x : Int) = R[x] := Ao R x hxl
   rw [eA, eR, List.zip_cons_cons]
   rw [← hae] at ha gA ⊢
   generalize R[x] = r at hr hs gR ⊢
   obtain ⟨i, rfl⟩ : ∃ i : Nat, a = (i : Int) := ⟨a.toNat, by omega⟩
   have hi : i < v.length := by omega
   have ok := hv _ (List.getElem_mem hi)
   have hwr := Xxz hr.1
   obtain ⟨r0, r1, r2, r3, r4, r5, r6, r7, r8⟩ := r
   have hr8 := (Cy hr.1).2.2.2.2.2.2.1
   obtain ⟨d, f1, f2, good⟩ := fwd q ok hr.1 hr.2 hk
   have f3 := X1y (q + 4) v d.2.1 (by omega) hk
   have f4 := Xff (q + 4) v d.2.1 (by omega) hk
   have f5 := Xkh d.2.1 v 0
   generalize fi d.2.1 v 0 = t at f3 f4 f5
   have d1 : decide ((x : Int) < ((R.length : Nat) : Int)) = true := decide_eq_true (by omega)
   have dA : decide ((x : Int) < ((A.length : Nat) : Int)) = true := decide_eq_true (by omega)
   have d0 : decide ((0 : Int) ≤ ((x : Nat) : Int)) = true := decide_eq_true (by omega)
   have i1 : decide ((i : Int) < ((v.length : Nat) : Int)) = true := decide_eq_true (by omega)
   have i0 : decide ((0 : Int) ≤ ((i : Nat) : Int)) = true := decide_eq_true (by omega)
   have hdl2 : d.2.2.length ≤ 50 := by
    rcases good with ⟨_, e⟩ | ⟨_, e⟩ | ⟨_, z, e, _⟩ | ⟨_, _, _, e⟩
    ·rw [e]; simp
    ·rw [e]; simp
    ·rw [e]; simp
    ·exact e
   have l2 := V7 (q + 4) v w p (x : Int) t d (by omega) (q + 4) 0 (m.1, m.2.1, m.2.2 + 1) A R (Nat.zero_le _) (by omega) (by show m.1.length + _ ≤ _; omega) (by show m.2.1.length + _ ≤ _; omega) (by omega) (by omega)
   rw [List.drop_zero] at l2
   have w1 : IntKind.i64.wrap (m.2.2 + 1) = m.2.2 + 1 := i64_in _ (show -9223372036854775808 ≤ stp m + 1 ∧ stp m + 1 ≤ 9223372036854775807 by omega)
   have SP : ∀ z, Ee (q + 4) v w p n ((x + 1 : Nat) : Int) (nM d.1 d.2.2 (m.1, m.2.1, m.2.2 + 1)) (nA d.1 t d.2.2.length A) (nR d.1 t d.2.2 R) = some z → Ee (q + 4) v w p (n + 1) (x : Int) m A R = some z := fun z hz => by
    rw [Ee, gA, gR, Ao v i hi, w1]
    refine (ct d1).trans ((ct d0).trans ((ct dA).trans ((ct i0).trans ((ct i1).trans ((ct d0).trans ((ct d1).trans ((bs f1).trans ((bs f3).trans ((bs l2).trans ?_)))))))))
    show Ee (q + 4) v w p n (IntKind.i64.wrap ((x : Int) + 1)) _ _ _ = _
    rw [D5 x (by omega)]
    exact hz
   generalize hZ : (List.zip (A.drop (x + 1)) (R.drop (x + 1)) : We) = Z
   have hZl : Z.length ≤ 30000 := by rw [← hZ, List.length_zip]; omega
   have tl : ((((i : Int), r0, r1, r2, r3, r4, r5, r6, r7, r8) :: Z : We).take (((((i : Int), r0, r1, r2, r3, r4, r5, r6, r7, r8) :: Z : We).length : Int)).toNat).drop 1 = Z := by rw [Int.toNat_natCast, List.take_length]; rfl
   have z0 : decide (((((i : Int), r0, r1, r2, r3, r4, r5, r6, r7, r8) :: Z : We).length : Int) > 0) = true := decide_eq_true (by rw [List.length_cons]; omega)
   have z1 : decide ((0 : Int) < ((((i : Int), r0, r1, r2, r3, r4, r5, r6, r7, r8) :: Z : We).length : Int)) = true := decide_eq_true (by rw [List.length_cons]; omega)
   have z2 : (decide ((0 : Int) ≤ 1) && decide ((1 : Int) ≤ ((((i : Int), r0, r1, r2, r3, r4, r5, r6, r7, r8) :: Z : We).length : Int))) = true := by rw [List.length_cons, decide_eq_true (by omega : (1 : Int) ≤ ((Z.length + 1 : Nat) : Int))]; rfl
   have g0 : Ac (t := .pair (.int .i64) Al) (((i : Int), r0, r1, r2, r3, r4, r5, r6, r7, r8) :: Z) 0 = ((i : Int), r0, r1, r2, r3, r4, r5, r6, r7, r8) := rfl
   rw [Br, g0, w1, tl]
   dsimp only
   rw [Ao v i hi]
   have m2 : 0 ≤ stp m + 1 ∧ stp m + 1 + (c : Int) ≤ 20000 := by omega
   have hs2 : A7 wt (R.drop (x + 1)) ≤ (c : Int) := by omega
   have stay : ∃ z : den Db, Ee (q + 4) v w p n ((x + 1 : Nat) : Int) (m.1, m.2.1, m.2.2 + 1) A R = some z ∧ Br (q + 4) v w p n' (m.1, m.2.1, m.2.2 + 1) Z = some z ∧ TOk z := by
    rw [← hZ]
    exact ih n n' (x + 1) (m.1, m.2.1, m.2.2 + 1) A R hAR hxl hA' hR' hs2 (by omega) (by omega) (by omega) (by show m.1.length + _ ≤ _; omega) (by show m.2.1.length + _ ≤ _; omega) hl1 hl2 m2
   rcases good with ⟨k0, e⟩ | ⟨k1, e⟩ | ⟨k3, b, e, eb⟩ | ⟨k2, e1, e2, e3⟩
   ·obtain ⟨z, s1, s2, s3⟩ := stay
    rw [e] at SP
    have eM : nM d.1 [] (m.1, m.2.1, m.2.2 + 1) = (m.1, m.2.1, m.2.2 + 1) := by unfold nM; rw [k0]; rfl
    have eA2 : nA d.1 t ([] : Cw).length A = A := by unfold nA; rw [k0]; cases ht : decide (t ≥ 0) <;> simp
    have eR2 : nR d.1 t [] R = R := by unfold nR; rw [k0]; cases ht : decide (t ≥ 0) <;> simp
    rw [eM, eA2, eR2] at SP
    refine ⟨z, SP z s1, ?_, s3⟩
    refine (ct z0).trans ((ct z1).trans ((ct z2).trans ((ct i0).trans ((ct i1).trans ((bs f2).trans ?_)))))
    rw [k0]
    exact s2
   ·rw [e] at SP
    have eM : nM d.1 [(r0, r1, r2, r3, r4, r5, r6, r7, r8)] (m.1, m.2.1, m.2.2 + 1) = (m.1 ++ [(r0, r1, r2, r3, r4, r5, r6, r7, r8)], m.2.1, m.2.2 + 1) := by unfold nM; rw [k1]; rfl
    have eA2 : nA d.1 t ([(r0, r1, r2, r3, r4, r5, r6, r7, r8)] : Cw).length A = A := by unfold nA; rw [k1]; rfl
    have eR2 : nR d.1 t [(r0, r1, r2, r3, r4, r5, r6, r7, r8)] R = R := by unfold nR; rw [k1]; rfl
    rw [eM, eA2, eR2] at SP
    obtain ⟨z, s1, s2, s3⟩ := ih n n' (x + 1) (m.1 ++ [(r0, r1, r2, r3, r4, r5, r6, r7, r8)], m.2.1, m.2.2 + 1) A R hAR hxl hA' hR' hs2 (by omega) (by omega) (by omega) (by show (m.1 ++ _).length + _ ≤ _; rw [List.length_append, List.length_singleton]; omega) (by show m.2.1.length + _ ≤ _; omega)
     (fun y hy => (List.mem_append.1 hy).elim (hl1 y) (fun hy => by obtain rfl := List.mem_singleton.1 hy; show r8.length ≤ _; omega)) hl2 m2
    rw [hZ] at s2
    refine ⟨z, SP z s1, ?_, s3⟩
    refine (ct z0).trans ((ct z1).trans ((ct z2).trans ((ct i0).trans ((ct i1).trans ((bs f2).trans ?_)))))
    rw [k1, e]
    exact (ct rfl).trans ((ct (decide_eq_true (by rw [List.length_singleton]; omega))).trans s2)
   ·rw [e] at SP
    have eM : nM d.1 [b] (m.1, m.2.1, m.2.2 + 1) = (m.1, m.2.1 ++ [b], m.2.2 + 1) := by unfold nM; rw [k3]; rfl
    have eA2 : nA d.1 t ([b] : Cw).length A = A := by unfold nA; rw [k3]; rfl
    have eR2 : nR d.1 t [b] R = R := by unfold nR; rw [k3]; rfl
    rw [eM, eA2, eR2] at SP
    obtain ⟨z, s1, s2, s3⟩ := ih n n' (x + 1) (m.1, m.2.1 ++ [b], m.2.2 + 1) A R hAR hxl hA' hR' hs2 (by omega) (by omega) (by omega) (by show m.1.length + _ ≤ _; omega) (by show (m.2.1 ++ _).length + _ ≤ _; rw [List.length_append, List.length_singleton]; omega)
     hl1 (fun y hy => (List.mem_append.1 hy).elim (hl2 y) (fun hy => by obtain rfl := List.mem_singleton.1 hy; exact eb)) m2
    rw [hZ] at s2
    refine ⟨z, SP z s1, ?_, s3⟩
    refine (ct z0).trans ((ct z1).trans ((ct z2).trans ((ct i0).trans ((ct i1).trans ((bs f2).trans ?_)))))
    rw [k3, e]
    exact (cf rfl).trans ((ct rfl).trans ((ct (decide_eq_true (by rw [List.length_singleton]; omega))).trans s2))
   ·have eM : nM d.1 d.2.2 (m.1, m.2.1, m.2.2 + 1) = (m.1, m.2.1, m.2.2 + 1) := by unfold nM; rw [k2]; rfl
    by_cases ht : t ≥ 0
    ·have eA2 : nA d.1 t d.2.2.length A = A ++ List.replicate d.2.2.length t := by unfold nA; rw [k2, decide_eq_true ht]; rfl
     have eR2 : nR d.1 t d.2.2 R = R ++ d.2.2 := by unfold nR; rw [k2, decide_eq_true ht]; rfl
     rw [eM, eA2, eR2] at SP
     have dA2 : (A ++ List.replicate d.2.2.length t).drop (x + 1) = A.drop (x + 1) ++ List.replicate d.2.2.length t := List.drop_append_of_le_length (by omega)
     have dR2 : (R ++ d.2.2).drop (x + 1) = R.drop (x + 1) ++ d.2.2 := List.drop_append_of_le_length (by omega)
     have zz : (List.zip ((A ++ List.replicate d.2.2.length t).drop (x + 1)) ((R ++ d.2.2).drop (x + 1)) : We) = Z ++ d.2.2.map fun r => (t, r) := by
      rw [dA2, dR2, List.zip_append (by rw [List.length_drop, List.length_drop]; omega), hZ]
      congr 1
      generalize d.2.2 = l
      induction l with
      | nil => rfl
      | cons y l ihl => rw [List.length_cons, List.replicate_succ, List.zip_cons_cons, List.map_cons, ihl]
     obtain ⟨z, s1, s2, s3⟩ := ih n n' (x + 1) (m.1, m.2.1, m.2.2 + 1) (A ++ List.replicate d.2.2.length t) (R ++ d.2.2) (by rw [List.length_append, List.length_append, List.length_replicate, hAR]) (by rw [List.length_append]; omega)
      (fun y hy => by
       rw [dA2] at hy
       rcases List.mem_append.1 hy with hy | hy
       ·exact hA' y hy
       ·rw [List.eq_of_mem_replicate hy]; show 0 ≤ t ∧ t < (v.length : Int); omega)
      (fun y hy => by
       rw [dR2] at hy
       exact (List.mem_append.1 hy).elim (hR' y) (e1 y))
      (by rw [dR2, Xcw]; omega) (by omega) (by omega) (by omega) (by show m.1.length + _ ≤ _; omega) (by show m.2.1.length + _ ≤ _; omega) hl1 hl2 m2
     rw [zz] at s2
     have l3 := M5 (q + 4) v w p t (m.1, m.2.1, m.2.2 + 1) d.2.2 (by omega) (q + 4) 0 Z (Nat.zero_le _) (by omega) (by omega)
     rw [List.drop_zero] at l3
     refine ⟨z, SP z s1, ?_, s3⟩
     refine (ct z0).trans ((ct z1).trans ((ct z2).trans ((ct i0).trans ((ct i1).trans ((bs f2).trans ?_)))))
     rw [k2]
     exact (cf rfl).trans ((cf rfl).trans ((ct rfl).trans ((bs f4).trans ((ct (decide_eq_true ht)).trans ((bs l3).trans s2)))))
    ·have eA2 : nA d.1 t d.2.2.length A = A := by unfold nA; rw [k2, decide_eq_false ht]; rfl
     have eR2 : nR d.1 t d.2.2 R = R := by unfold nR; rw [k2, decide_eq_false ht]; rfl
     rw [eM, eA2, eR2] at SP
     obtain ⟨z, s1, s2, s3⟩ := stay
     refine ⟨z, SP z s1, ?_, s3⟩
     refine (ct z0).trans ((ct z1).trans ((ct z2).trans ((ct i0).trans ((ct i1).trans ((bs f2).trans ?_)))))
     rw [k2]
     exact (cf rfl).trans ((cf rfl).trans ((ct rfl).trans ((bs f4).trans ((cf (decide_eq_false ht)).trans s2))))
end Go.Proofs.YtdmepjjepogddaaGreat.Gn
end

section
namespace Go.Proofs.YtdmepjjepogddaaGreat.Gn
open Go.Rf Go.IntWalk
set_option linter.unusedVariables false
set_option linter.unusedSimpArgs false
def Ch (g : Int → Bool → Bc → den Al) : Int → Cw → Bc → Bool → Prop
 | _, [], c, f => c = [] ∧ f = true
 | x, p :: l, c, f => ∃ m d c', p = g x m d ∧ c = d ++ c' ∧ ((m = true ∧ d ≠ [] ∧ Ch g (x + (d.length : Int)) l c' f) ∨ (m = false ∧ l = [] ∧ c' = [] ∧ f = false))
theorem Jv (g : Int → Bool → Bc → den Al) : ∀ {l : Cw} {x : Int} {c : Bc} {l' : Cw} {c' : Bc} {f : Bool}, Ch g x l c true → Ch g (x + (c.length : Int)) l' c' f → Ch g x (l ++ l') (c ++ c') f
 | [], x, c, l', c', f, h, h' => by
  obtain ⟨rfl, _⟩ := h
  simpa using h'
 | p :: l, x, c, l', c', f, h, h' => by
  obtain ⟨m, d, c2, rfl, rfl, h | h⟩ := h
  ·refine ⟨m, d, c2 ++ c', rfl, by rw [List.append_assoc], .inl ⟨h.1, h.2.1, Jv g h.2.2 ?_⟩⟩
   rw [List.length_append] at h'
   rw [show x + (d.length : Int) + (c2.length : Int) = x + ((d.length + c2.length : Nat) : Int) by omega]
   exact h'
  ·exact absurd h.2.2.2 (by decide)
theorem Jy (g : Int → Bool → Bc → den Al) {x : Int} {m : Bool} {d : Bc} (h : m = true → d ≠ []) : Ch g x [g x m d] d m := by
 refine ⟨m, d, [], rfl, by simp, ?_⟩
 cases m with
 | true => exact .inl ⟨rfl, h rfl, rfl, rfl⟩
 | false => exact .inr ⟨rfl, rfl, rfl, rfl⟩
theorem Xl4 (g : Int → Bool → Bc → den Al) {N : Nat} (hN : 1 ≤ N) (f : Bool) : ∀ (n : Nat) (a : Int) (d : Bc), d.length < n → (f = true → d ≠ []) → Ch g a (C0 g N f n a d) d f
 | 0, _, _, h, _ => by omega
 | n + 1, a, d, h, hf => by
  rw [C0]
  by_cases hl : d.length ≤ N
  ·rw [if_pos hl]
   exact Jy g hf
  ·rw [if_neg hl]
   have ht : (d.take N).length = N := by rw [List.length_take]; omega
   have hd : (d.drop N).length = d.length - N := List.length_drop
   refine ⟨true, d.take N, d.drop N, rfl, (List.take_append_drop N d).symm, .inl ⟨rfl, fun e => by rw [e] at ht; simp at ht; omega, ?_⟩⟩
   rw [ht]
   exact Xl4 g hN f n _ _ (by omega) (fun _ e => by rw [e] at hd; simp at hd; omega)
theorem E7 (g : Int → Bool → Bc → den Al) : ∀ {l : Cw} {x : Int} {c : Bc} {f : Bool}, Ch g x l c f → l.length ≤ c.length + 1
 | [], _, _, _, _ => Nat.zero_le _
 | p :: l, x, c, f, h => by
  obtain ⟨m, d, c2, rfl, rfl, h | h⟩ := h
  ·have := E7 g h.2.2
   have := List.length_pos_iff.2 h.2.1
   rw [List.length_append, List.length_cons]
   omega
  ·rw [h.2.1]; simp
theorem X9 (g : Int → Bool → Bc → den Al) : ∀ {l : Cw} {x : Int} {c : Bc} {f : Bool} {p : den Al}, Ch g x l c f → p ∈ l → ∃ x' m d, p = g x' m d ∧ x ≤ x' ∧ x' + (d.length : Int) ≤ x + (c.length : Int) ∧ (m = true → d ≠ []) ∧ ∀ b ∈ d, b ∈ c
 | [], _, _, _, _, _, h => by cases h
 | p :: l, x, c, f, r, h, hr => by
  obtain ⟨m, d, c2, rfl, rfl, h | h⟩ := h
  ·rcases List.mem_cons.1 hr with rfl | hr
   ·exact ⟨x, m, d, rfl, Int.le_refl _, by rw [List.length_append]; omega, fun _ => h.2.1, fun b hb => List.mem_append_left _ hb⟩
   ·obtain ⟨x', m', d', e1, e2, e3, e4, e5⟩ := X9 g h.2.2 hr
    exact ⟨x', m', d', e1, by omega, by rw [List.length_append]; omega, e4, fun b hb => List.mem_append_right _ (e5 b hb)⟩
  ·rw [h.2.1] at hr
   obtain rfl := List.mem_singleton.1 hr
   exact ⟨x, m, d, rfl, Int.le_refl _, by rw [List.length_append]; omega, (fun e => by rw [h.1] at e; cases e), fun b hb => List.mem_append_left _ hb⟩
theorem fwdV (q : Nat) {s : den sta} (hs : StaOk (q + 4) s) {v0 v1 v2 v3 v4 v5 : Int} {v6 : Bool} {v8 : Bc} (h : Lr (v0, v1, v2, v3, v4, v5, v6, false, v8) = true) (hb : BOk v8) (hk : 1048576 < q + 4) (ha : v5 + (v8.length : Int) ≤ 255) :
    ∃ d : den So, Zb (q + 4) s (v0, v1, v2, v3, v4, v5, v6, false, v8) = some d ∧
      ((v1 = s.1 ∧ d = (1, 0, [(v0, v1, v2, v3, v4, v5, v6, false, v8)])) ∨
       (v1 ≠ s.1 ∧ (v3 < 2 ∨ (Rt.Cf v1 17 s.2.reverse).2 = false) ∧ (@Eq Int d.1 0 ∨ @Eq Int d.1 3)) ∨
       (v1 ≠ s.1 ∧ ¬ v3 < 2 ∧ (Rt.Cf v1 17 s.2.reverse).2 = true ∧ ∃ N : Nat, (1 ≤ N ∧ N ≤ 48) ∧ @Eq Int (Rt.Cf v1 17 s.2.reverse).1.2.2.2 (N : Int) ∧ d = (2, (Rt.Cf v1 17 s.2.reverse).1.2.2.1, C0 (I0 v0 v1 v2 (v3 - 1) v4 false) N v6 50 v5 v8))) := by
  obtain ⟨q0, q1, q2, q3, q4, q5, q6, q7, q8⟩ := Cy h
  have h58 := Id (q + 4) (v0, v1, v2, v3, v4, v5, v6, false, v8) (show v8.length ≤ 1048576 by omega)
  have ig := fun (a b : Int) (ha : 3 ≤ a ∧ a ≤ 6) (hb2 : 0 ≤ b ∧ b ≤ 65535) => Xlt (Xk9 q h hb hk hs.at1 ha hb2)
  have gk : ∀ b : den Al × Bool, @Eq Int (Jj b).1 0 ∨ @Eq Int (Jj b).1 3 := fun b => by
    unfold Jj
    cases b.2 with
    | true => exact .inr rfl
    | false => exact .inl rfl
  unfold Zb Up; (try dsimp only)
  by_cases c1 : v1 = s.1
  · have b1 : (v1 == s.1) = true := beq_iff_eq.2 c1
    exact ⟨_, (ct b1).trans ((bs h58).trans rfl), .inl ⟨c1, rfl⟩⟩
  have b1 : (v1 == s.1) = false := beq_eq_false_iff_ne.2 c1
  by_cases c2 : v3 < 2
  · exact ⟨_, (cf b1).trans ((ct (decide_eq_true c2)).trans ((bs (ig 4 0 (by omega) (by omega))).trans rfl)), .inr (.inl ⟨c1, .inl c2, gk _⟩)⟩
  have b2 : decide (v3 < 2) = false := decide_eq_false c2
  have fi := Xtb (q + 4) s.2 v1 hs.len hs.ok
  have fm := Un v1 17 (l := s.2.reverse)
  generalize Rt.Cf v1 17 s.2.reverse = r at fi fm ⊢
  obtain ⟨r, fd⟩ := r
  cases fd with
  | false => exact ⟨_, (cf b1).trans ((cf b2).trans ((bs fi).trans ((ct rfl).trans ((bs (ig 3 0 (by omega) (by omega))).trans rfl)))), .inr (.inl ⟨c1, .inr rfl, gk _⟩)⟩
  | true =>
    have hm := List.mem_reverse.1 (fm rfl)
    obtain ⟨r0, r1, gw, mtu⟩ := r
    have hmtu : @LE.le Int _ 1 mtu ∧ @LE.le Int _ mtu 48 := A8 (Ow (hs.ok _ hm)).2.2.2
    obtain ⟨N, hN⟩ : ∃ N : Nat, mtu = (N : Int) := ⟨Int.toNat mtu, (Int.toNat_of_nonneg (by omega)).symm⟩
    subst hN
    have hN : 1 ≤ N ∧ N ≤ 48 := by omega
    have e2 := Xko (q + 4) h hN (fun e => by cases e)
    have hla := Xc8 N 50 v5 v8
    unfold Me at e2
    rw [decide_eq_false (by omega : ¬ Dt N 50 v5 v8 > 255)] at e2
    have hl := Jm (I0 v0 v1 v2 v3 v4 false) N v6 50 v5 v8
    have := Xi5 (q + 4) s (v0, v1, v2, v3, v4, v5, v6, false, v8) (r0, r1, gw, (N : Int)) (q + 4) [] (C0 (I0 v0 v1 v2 v3 v4 false) N v6 50 v5 v8) (by simp; omega) (by omega)
    simp only [List.nil_append, List.length_nil, Nat.zero_add] at this
    rw [Uj q3] at this
    refine ⟨(2, gw, C0 (I0 v0 v1 v2 (v3 - 1) v4 false) N v6 50 v5 v8), ?_, .inr (.inr ⟨c1, c2, rfl, N, hN, rfl, rfl⟩)⟩
    by_cases c3 : (v8.length : Int) > (N : Int)
    · exact (cf b1).trans ((cf b2).trans ((bs fi).trans ((cf rfl).trans ((ct (decide_eq_true c3)).trans ((cf rfl).trans ((bs e2).trans ((cf rfl).trans this)))))))
    · exact (cf b1).trans ((cf b2).trans ((bs fi).trans ((cf rfl).trans ((cf (decide_eq_false c3)).trans ((bs e2).trans ((cf rfl).trans this))))))
def Iz (v : Ks) (s : den sta) (to h : Int) : Option (Int × Nat) :=
 cond (decide (h < 2)) none (cond (Rt.Cf to 17 s.2.reverse).2 (cond (decide (fi (Rt.Cf to 17 s.2.reverse).1.2.2.1 v 0 ≥ 0)) (some (fi (Rt.Cf to 17 s.2.reverse).1.2.2.1 v 0, Int.toNat (Rt.Cf to 17 s.2.reverse).1.2.2.2)) none) none)
theorem X6 {α : Type} {c : Bool} {x : Option α} {t : α} (h : cond c x none = some t) : c = true ∧ x = some t := by
 cases c with
 | true => exact ⟨rfl, h⟩
 | false => cases h
theorem Yia (q : Nat) {v : Ks} (w : Int) (p : den Al) (hv : ∀ s ∈ v, StaOk (q + 4) s) (hvl : v.length ≤ 5) (hk : 1048576 < q + 4) {n a : Nat} {s : den sta} (hs : v[a]? = some s) {m : den Db} {v0 v1 v2 v3 v4 v5 : Int} {v6 : Bool} {v8 : Bc}
    (h : Lr (v0, v1, v2, v3, v4, v5, v6, false, v8) = true) (hb : BOk v8) (ha : v5 + (v8.length : Int) ≤ 255) {Z : We} (hZ : Z.length ≤ 1000) (hm : m.1.length ≤ 1000) {t : den Db}
    (ht : Br (q + 4) v w p (n + 1) m (((a : Int), v0, v1, v2, v3, v4, v5, v6, false, v8) :: Z) = some t) :
    ∃ m' : den Db, ∃ Q' : We, Br (q + 4) v w p n m' Q' = some t ∧
      ((v1 = s.1 ∧ m'.1 = m.1 ++ [(v0, v1, v2, v3, v4, v5, v6, false, v8)] ∧ Q' = Z) ∨
       (v1 ≠ s.1 ∧ m'.1 = m.1 ∧ ((Iz v s v1 v3 = none ∧ Q' = Z) ∨ ∃ b : Nat, ∃ N : Nat, Iz v s v1 v3 = some ((b : Int), N) ∧ b < v.length ∧ 1 ≤ N ∧ 2 ≤ v3 ∧ Q' = Z ++ (C0 (I0 v0 v1 v2 (v3 - 1) v4 false) N v6 50 v5 v8).map fun r => ((b : Int), r)))) := by
  obtain ⟨hi, hse⟩ := List.getElem?_eq_some_iff.1 hs
  have ok := hv _ (List.getElem_mem hi)
  rw [hse] at ok
  obtain ⟨d, f2, hd⟩ := fwdV q ok h hb hk ha
  have i1 : decide ((a : Int) < ((v.length : Nat) : Int)) = true := decide_eq_true (by omega)
  have i0 : decide ((0 : Int) ≤ ((a : Nat) : Int)) = true := decide_eq_true (by omega)
  have tl : ((((a : Int), v0, v1, v2, v3, v4, v5, v6, false, v8) :: Z : We).take (((((a : Int), v0, v1, v2, v3, v4, v5, v6, false, v8) :: Z : We).length : Int)).toNat).drop 1 = Z := by rw [Int.toNat_natCast, List.take_length]; rfl
  have z0 : decide (((((a : Int), v0, v1, v2, v3, v4, v5, v6, false, v8) :: Z : We).length : Int) > 0) = true := decide_eq_true (by rw [List.length_cons]; omega)
  have z1 : decide ((0 : Int) < ((((a : Int), v0, v1, v2, v3, v4, v5, v6, false, v8) :: Z : We).length : Int)) = true := decide_eq_true (by rw [List.length_cons]; omega)
  have z2 : (decide ((0 : Int) ≤ 1) && decide ((1 : Int) ≤ ((((a : Int), v0, v1, v2, v3, v4, v5, v6, false, v8) :: Z : We).length : Int))) = true := by rw [List.length_cons, decide_eq_true (by omega : (1 : Int) ≤ ((Z.length + 1 : Nat) : Int))]; rfl
  have g0 : Ac (t := .pair (.int .i64) Al) (((a : Int), v0, v1, v2, v3, v4, v5, v6, false, v8) :: Z) 0 = ((a : Int), v0, v1, v2, v3, v4, v5, v6, false, v8) := rfl
  rw [Br, g0, tl] at ht
  dsimp only at ht
  rw [Ao v a hi, hse] at ht
  replace ht := Eq.trans (Eq.symm ((ct z0).trans ((ct z1).trans ((ct z2).trans ((ct i0).trans ((ct i1).trans (bs f2))))))) ht
  rcases hd with ⟨c1, rfl⟩ | ⟨c1, c2, c3⟩ | ⟨c1, c2, c3, N, hN, eN, rfl⟩
  · obtain ⟨_, ht⟩ := X6 ht
    exact ⟨_, _, ht, .inl ⟨c1, rfl, rfl⟩⟩
  · have hh : Iz v s v1 v3 = none := by
      unfold Iz
      by_cases c : v3 < 2
      · rw [decide_eq_true c]; rfl
      · rw [decide_eq_false c, c2.resolve_left c]; rfl
    rcases c3 with c3 | c3
    · rw [c3] at ht
      exact ⟨_, _, ht, .inr ⟨c1, rfl, .inl ⟨hh, rfl⟩⟩⟩
    · rw [c3] at ht
      obtain ⟨_, ht⟩ := X6 ht
      exact ⟨_, _, ht, .inr ⟨c1, rfl, .inl ⟨hh, rfl⟩⟩⟩
  · have f4 := Xff (q + 4) v (Rt.Cf v1 17 s.2.reverse).1.2.2.1 (by omega) hk
    have f5 := Xkh (Rt.Cf v1 17 s.2.reverse).1.2.2.1 v 0
    have hh : Iz v s v1 v3 = cond (decide (fi (Rt.Cf v1 17 s.2.reverse).1.2.2.1 v 0 ≥ 0)) (some (fi (Rt.Cf v1 17 s.2.reverse).1.2.2.1 v 0, N)) none := by
      unfold Iz
      rw [decide_eq_false c2, c3, cond_false, cond_true]
      have : Int.toNat (Rt.Cf v1 17 s.2.reverse).1.2.2.2 = N := by rw [eN]; rfl
      rw [this]
    have ht : (F75 (q + 4) v (Rt.Cf v1 17 s.2.reverse).1.2.2.1).bind _ = some t := ht
    rw [f4, Option.bind_some] at ht
    generalize fi (Rt.Cf v1 17 s.2.reverse).1.2.2.1 v 0 = b at *
    by_cases cb : b ≥ 0
    · obtain ⟨b, rfl⟩ : ∃ i : Nat, b = (i : Int) := ⟨b.toNat, by omega⟩
      rw [decide_eq_true cb] at ht hh
      have hl := Jm (I0 v0 v1 v2 (v3 - 1) v4 false) N v6 50 v5 v8
      have l3 := M5 (q + 4) v w p (b : Int) (m.1, m.2.1, IntKind.i64.wrap (m.2.2 + 1)) (C0 (I0 v0 v1 v2 (v3 - 1) v4 false) N v6 50 v5 v8) (by omega) (q + 4) 0 Z (Nat.zero_le _) (by omega) (by omega)
      rw [List.drop_zero] at l3
      have ht := (bs l3).symm.trans ht
      exact ⟨_, _, ht, .inr ⟨c1, rfl, .inr ⟨b, N, hh, by omega, hN.1, by omega, rfl⟩⟩⟩
    · rw [decide_eq_false cb] at ht hh
      exact ⟨_, _, ht, .inr ⟨c1, rfl, .inl ⟨hh, rfl⟩⟩⟩
end Go.Proofs.YtdmepjjepogddaaGreat.Gn
end

section
namespace Go.Proofs.YtdmepjjepogddaaGreat.Gn
open Go.Rf Go.IntWalk
set_option linter.unusedVariables false
set_option linter.unusedSimpArgs false
def Bd (fr to kd id h : Int) : Int → Bool → Bc → den Al := I0 fr to kd h id false
def Vz (a : Nat) (l : Cw) : We := l.map fun r => ((a : Int), r)
def Inv (v : Ks) (fr to kd id : Int) (c : Bc) (arr : Cw) (Q : We) : Prop :=
  (Q = [] ∧ (arr = [] ∨ ∃ h : Int, (0 ≤ h ∧ h ≤ 64) ∧ Ch (Bd fr to kd id h) 0 arr c false)) ∨
  ∃ (a : Nat) (s : den sta) (h : Int) (c1 c2 : Bc) (A : Cw), v[a]? = some s ∧ (0 ≤ h ∧ h ≤ 64) ∧ c = c1 ++ c2 ∧ Ch (Bd fr to kd id h) (c1.length : Int) A c2 false ∧
    ((to = s.1 ∧ Ch (Bd fr to kd id h) 0 arr c1 true ∧ Q = Vz a A) ∨
     (to ≠ s.1 ∧ arr = [] ∧ ((Iz v s to h = none ∧ Q = Vz a A) ∨
       ∃ (b N : Nat) (B : Cw), Iz v s to h = some ((b : Int), N) ∧ b < v.length ∧ 1 ≤ h ∧ Ch (Bd fr to kd id (h - 1)) 0 B c1 true ∧ Q = Vz a A ++ Vz b B)))
theorem Xrk {v : Ks} {s : den sta} {to h : Int} {b : Int} {N : Nat} (e : Iz v s to h = some (b, N)) : 2 ≤ h ∧ 0 ≤ b ∧ b < (v.length : Int) := by
 unfold Iz at e
 by_cases c : h < 2
 ·rw [decide_eq_true c] at e; cases e
 ·rw [decide_eq_false c, cond_false] at e
  obtain ⟨_, e⟩ := X6 e
  have f5 := Xkh (Rt.Cf to 17 s.2.reverse).1.2.2.1 v 0
  by_cases c2 : fi (Rt.Cf to 17 s.2.reverse).1.2.2.1 v 0 ≥ 0
  ·rw [decide_eq_true c2, cond_true] at e
   simp only [Option.some.injEq, Prod.mk.injEq] at e
   omega
  ·rw [decide_eq_false c2] at e; cases e
theorem Xl5 {v : Ks} {fr to kd id : Int} {c : Bc} {a : Nat} {h : Int} {A : Cw} (ha : a < v.length) (hh : 0 ≤ h ∧ h ≤ 64) (hA : Ch (Bd fr to kd id h) 0 A c false) : Inv v fr to kd id c [] (Vz a A) := by
 refine .inr ⟨a, v[a], h, [], c, A, List.getElem?_eq_getElem ha, hh, rfl, hA, ?_⟩
 by_cases e : to = v[a].1
 ·exact .inl ⟨e, ⟨rfl, rfl⟩, rfl⟩
 ·refine .inr ⟨e, rfl, ?_⟩
  cases ho : Iz v v[a] to h with
  | none => exact .inl ⟨rfl, rfl⟩
  | some z =>
   obtain ⟨b, N⟩ := z
   obtain ⟨h1, h2, h3⟩ := Xrk ho
   obtain ⟨b, rfl⟩ : ∃ i : Nat, b = (i : Int) := ⟨b.toNat, by omega⟩
   exact .inr ⟨b, N, [], rfl, by omega, by omega, ⟨rfl, rfl⟩, by simp [Vz]⟩
theorem Yhc (g : Int → Bool → Bc → den Al) {x : Int} {l : Cw} {c : Bc} (h : Ch g x l c false) : l ≠ [] := fun e => by
 subst e
 exact absurd h.2 (by decide)
theorem Sx (q : Nat) {v : Ks} (w : Int) (p : den Al) (hv : ∀ s ∈ v, StaOk (q + 4) s) (hvl : v.length ≤ 5) (hk : 1048576 < q + 4) {fr to kd id : Int} {c : Bc} (hfr : 0 ≤ fr ∧ fr ≤ 65535) (hto : 0 ≤ to ∧ to ≤ 65535) (hkd : 0 ≤ kd ∧ kd ≤ 255) (hid : 0 ≤ id ∧ id ≤ 255) (hc : c.length ≤ 48) (hb : BOk c) :
  ∀ (n : Nat) (m : den Db) (Q : We) (t : den Db), Inv v fr to kd id c m.1 Q → Br (q + 4) v w p n m Q = some t → t.1 = [] ∨ ∃ h : Int, (0 ≤ h ∧ h ≤ 64) ∧ Ch (Bd fr to kd id h) 0 t.1 c false
 | 0, _, _, _, _, ht => by rw [Br] at ht; cases ht
 | n + 1, m, Q, t, hI, ht => by
  rcases hI with ⟨rfl, hF⟩ | ⟨a, s, h, c1, c2, A, hs, hh, hcc, hA, hM⟩
  ·
   rw [Br] at ht
   have hsz : m.1.length ≤ 100000 ∧ ∀ r ∈ m.1, r.2.2.2.2.2.2.2.2.length ≤ 1048576 := by
    rcases hF with e | ⟨h, _, hF⟩
    ·rw [e]; exact ⟨by simp, fun r hr => by cases hr⟩
    ·have := E7 _ hF
     refine ⟨by omega, fun r hr => ?_⟩
     obtain ⟨x', m', d, rfl, _, e3, _⟩ := X9 _ hF hr
     show d.length ≤ 1048576
     omega
   have e1 := Ho (q + 4) m.1 hsz.1 hsz.2 hk
   have ht := Eq.trans (Eq.symm ((cf (show decide ((([] : We).length : Int) > 0) = false from rfl)).trans (bs e1))) ht
   cases e2 : Sp (q + 4) m.2.1 with
   | none => rw [e2] at ht; cases ht
   | some z =>
    rw [e2, Option.bind_some, Option.some.injEq] at ht
    rw [← ht]
    exact hF
  ·have hAne := Yhc _ hA
   cases A with
   | nil => exact absurd rfl hAne
   | cons r A =>
    obtain ⟨m0, d, c2', rfl, rfl, hA2⟩ := hA
    have hlen : c1.length + d.length + c2'.length ≤ 48 := by rw [hcc] at hc; simp only [List.length_append] at hc; omega
    have hbd : BOk d := fun z hz => hb z (by rw [hcc]; simp [hz])
    have hmd : m0 = true → d ≠ [] := fun e => by
     rcases hA2 with h2 | h2
     ·exact h2.2.1
     ·rw [h2.1] at e; cases e
    have okp : Lr (Bd fr to kd id h (c1.length : Int) m0 d) = true := My hfr hto hkd (by omega) hid (by omega) (by omega) (fun e => List.length_pos_iff.2 (hmd e)) (fun e => by cases e)
    have hAl : A.length ≤ 49 := by
     rcases hA2 with h2 | h2
     ·have := E7 _ h2.2.2; omega
     ·rw [h2.2.1]; simp
    have st := fun (Z : We) (hZ : Z.length ≤ 1000) (hm : m.1.length ≤ 1000) (ht : Br (q + 4) v w p (n + 1) m (((a : Int), Bd fr to kd id h (c1.length : Int) m0 d) :: Z) = some t) => Yia q w p hv hvl hk hs okp hbd (by omega) hZ hm ht
    have e0 : (c1 ++ d).length = c1.length + d.length := List.length_append
    rcases hM with ⟨e1, harr, rfl⟩ | ⟨e1, harr, hM⟩
    ·
     have hml := E7 _ harr
     obtain ⟨m', Q', s1, s2⟩ := st (Vz a A) (by simp [Vz]; omega) (by omega) ht
     rcases s2 with ⟨_, s3, rfl⟩ | ⟨s3, _⟩
     ·have one := Jy (Bd fr to kd id h) (x := 0 + (c1.length : Int)) hmd
      rw [Int.zero_add] at one
      have arr' : Ch (Bd fr to kd id h) 0 m'.1 (c1 ++ d) m0 := by
       rw [s3]
       exact Jv _ harr (by rw [Int.zero_add]; exact one)
      refine Sx q w p hv hvl hk hfr hto hkd hid hc hb n m' _ t ?_ s1
      rcases hA2 with ⟨rfl, _, h2⟩ | ⟨rfl, rfl, rfl, _⟩
      ·refine .inr ⟨a, s, h, c1 ++ d, c2', A, hs, hh, by rw [List.append_assoc]; exact hcc, ?_, .inl ⟨e1, arr', rfl⟩⟩
       rw [e0, Int.natCast_add]
       exact h2
      ·refine .inl ⟨rfl, .inr ⟨h, hh, ?_⟩⟩
       rw [hcc, List.append_nil]
       exact arr'
     ·exact absurd e1 s3
    ·
     have hm1 : m.1.length ≤ 1000 := by rw [harr]; simp
     rcases hM with ⟨ho, rfl⟩ | ⟨b, N, B, ho, hbl, h1, hB, rfl⟩
     ·obtain ⟨m', Q', s1, s2⟩ := st (Vz a A) (by simp [Vz]; omega) hm1 ht
      rcases s2 with ⟨s3, _⟩ | ⟨_, s3, s4⟩
      ·exact absurd s3 e1
      ·rcases s4 with ⟨_, rfl⟩ | ⟨b, N, s5, _⟩
       ·refine Sx q w p hv hvl hk hfr hto hkd hid hc hb n m' _ t ?_ s1
        rw [s3, harr]
        rcases hA2 with ⟨rfl, _, h2⟩ | ⟨rfl, rfl, rfl, _⟩
        ·refine .inr ⟨a, s, h, c1 ++ d, c2', A, hs, hh, by rw [List.append_assoc]; exact hcc, ?_, .inr ⟨e1, rfl, .inl ⟨ho, rfl⟩⟩⟩
         rw [e0, Int.natCast_add]
         exact h2
        ·exact .inl ⟨rfl, .inl rfl⟩
       ·rw [show Iz v s to h = none from ho] at s5; cases s5
     ·have hBl := E7 _ hB
      have ht : Br (q + 4) v w p (n + 1) m (((a : Int), Bd fr to kd id h (c1.length : Int) m0 d) :: (Vz a A ++ Vz b B)) = some t := ht
      obtain ⟨m', Q', s1, s2⟩ := st (Vz a A ++ Vz b B) (by simp [Vz]; omega) hm1 ht
      rcases s2 with ⟨s3, _⟩ | ⟨_, s3, s4⟩
      ·exact absurd s3 e1
      ·rcases s4 with ⟨s5, _⟩ | ⟨b', N', s5, hb', hN', h3, rfl⟩
       ·rw [show Iz v s to h = _ from ho] at s5; cases s5
       ·rw [show Iz v s to h = _ from ho] at s5
        simp only [Option.some.injEq, Prod.mk.injEq] at s5
        obtain ⟨s5, rfl⟩ := s5
        obtain rfl : b = b' := by omega
        have cc := Xl4 (Bd fr to kd id (h - 1)) hN' m0 50 (0 + (c1.length : Int)) d (by omega) hmd
        have B' := Jv _ hB cc
        rw [Int.zero_add] at B'
        have eQ : Vz a A ++ Vz b B ++ (C0 (I0 fr to kd (h - 1) id false) N m0 50 (c1.length : Int) d).map (fun r => ((b : Int), r)) = Vz a A ++ Vz b (B ++ C0 (Bd fr to kd id (h - 1)) N m0 50 (c1.length : Int) d) := by
         rw [List.append_assoc]
         simp [Vz, Bd]
        have s1 : Br (q + 4) v w p n m' (Vz a A ++ Vz b B ++ (C0 (I0 fr to kd (h - 1) id false) N m0 50 (c1.length : Int) d).map (fun r => ((b : Int), r))) = some t := s1
        rw [eQ] at s1
        refine Sx q w p hv hvl hk hfr hto hkd hid hc hb n m' _ t ?_ s1
        rw [s3, harr]
        rcases hA2 with ⟨rfl, _, h2⟩ | ⟨rfl, rfl, rfl, _⟩
        ·refine .inr ⟨a, s, h, c1 ++ d, c2', A, hs, hh, by rw [List.append_assoc]; exact hcc, ?_, .inr ⟨e1, rfl, .inr ⟨b, N, _, ho, hbl, h1, B', rfl⟩⟩⟩
         rw [e0, Int.natCast_add]
         exact h2
        ·rw [hcc, List.append_nil]
         exact Xl5 (a := b) hbl (by omega) B'
end Go.Proofs.YtdmepjjepogddaaGreat.Gn
end

section
namespace Go.Proofs.YtdmepjjepogddaaGreat.Gn
open Go.Rf Go.IntWalk
set_option linter.unusedVariables false
set_option linter.unusedSimpArgs false
structure Gk (fr to kd id h : Int) : Prop where
 fr : 0 ≤ fr ∧ fr ≤ 65535
 to : 0 ≤ to ∧ to ≤ 65535
 kd : 0 ≤ kd ∧ kd ≤ 255
 id : 0 ≤ id ∧ id ≤ 255
 h : 0 ≤ h ∧ h ≤ 64
theorem Gk.ok {fr to kd id h x : Int} {m : Bool} {d : Bc} (G : Gk fr to kd id h) (h0 : 0 ≤ x) (hx : x + (d.length : Int) ≤ 48) (hm : m = true → d ≠ []) : Lr (Bd fr to kd id h x m d) = true :=
 My G.fr G.to G.kd (by have := G.h; omega) G.id (by omega) (by omega) (fun e => List.length_pos_iff.2 (hm e)) (fun e => by cases e)
def Cq (g : Int → Bool → Bc → den Al) : Int → Cw → Prop
 | x, [] => x ≤ 48
 | x, p :: l => ∃ m d, p = g x m d ∧ (m = true → d ≠ []) ∧ (l ≠ [] → m = true) ∧ x + (d.length : Int) ≤ 48 ∧ Cq g (x + (d.length : Int)) l
theorem X42 (g : Int → Bool → Bc → den Al) : ∀ {l : Cw} {x : Int} {c : Bc} {f : Bool}, Ch g x l c f → x + (c.length : Int) ≤ 48 → Cq g x l
 | [], x, c, f, h, hx => by
  obtain ⟨rfl, _⟩ := h
  simpa [Cq] using hx
 | p :: l, x, c, f, h, hx => by
  obtain ⟨m, d, c2, rfl, rfl, h⟩ := h
  rw [List.length_append] at hx
  refine ⟨m, d, rfl, fun e => ?_, fun e => ?_, by omega, ?_⟩
  ·rcases h with h | h
   ·exact h.2.1
   ·rw [h.1] at e; cases e
  ·rcases h with h | h
   ·exact h.1
   ·exact absurd h.2.1 e
  ·rcases h with h | h
   ·exact X42 g h.2.2 (by omega)
   ·rw [h.2.1]
    show x + (d.length : Int) ≤ 48
    omega
theorem Xba (k : Nat) (fr to kd id h x y : Int) (m m' : Bool) (d e : Bc) : Xbe k (Bd fr to kd id h x m d) (Bd fr to kd id h y m' e) = some true := by
 unfold Xbe Zh Bd I0; (try dsimp only)
 simp only [beq_self_eq_true, cond_true]
theorem Xtm (k : Nat) (fr to kd id h x y : Int) (m m' : Bool) (d e : Bc) : Xf7 k (Bd fr to kd id h x m d) (Bd fr to kd id h y m' e) = some true := Xba k fr to kd id h x y m m' d e
def isG (fr to kd id h : Int) (p : den Al) : Prop := ∃ (x : Int) (m : Bool) (d : Bc), p = Bd fr to kd id h x m d
theorem Xq7 (k : Nat) {fr to kd id h : Int} (G : Gk fr to kd id h) (S : Cw) (hS : ∀ z ∈ S, isG fr to kd id h z) (hSl : S.length ≤ 1000) (hne : 0 < S.length) : ∀ (n : Nat) (d r : Cw) (x : Int), S = d ++ r → Cq (Bd fr to kd id h) x r → 0 ≤ x → (r ≠ [] → d = [] ∨ ∃ d0 y e, d = d0 ++ [Bd fr to kd id h y true e] ∧ 0 ≤ y ∧ y + (e.length : Int) = x) → x ≤ 48 → (d ≠ [] ∨ r ≠ []) → r.length < n →
  Es k (S, 15) n x (d.length : Int) = some true ∧ Ej k (S, 15) n x (d.length : Int) = some true
 | 0, _, _, _, _, _, _, _, _, _, h => by omega
 | n + 1, d, [], x, hs, hq, h0, hd, hx, hor, hn => by
  have e1 : d.length = S.length := by rw [hs, List.append_nil]
  rw [Es, Ej]
  unfold Gu G9; (try dsimp only [As, Bo])
  have c1 : decide ((d.length : Int) < (S.length : Int)) = false := decide_eq_false (by omega)
  have c2 : decide ((S.length : Int) > 0) = true := decide_eq_true (by omega)
  exact ⟨(cf c1).trans ((ct c2).trans ((ct (decide_eq_true hx)).trans ((bs (Bm k 15 0 1000000)).trans rfl))), (cf c1).trans ((ct c2).trans ((ct (decide_eq_true hx)).trans ((bs (C1 k 15 0 1000000)).trans rfl)))⟩
 | n + 1, d, p :: r, x, hs, hq, h0, hd, hx, hor, hn => by
  obtain ⟨m, e, rfl, hm, hr, hxe, hq⟩ := hq
  have hj : d.length < S.length := by rw [hs]; simp
  have hg : Ac (t := Al) S (d.length : Int) = Bd fr to kd id h x m e := by rw [Ao S d.length hj]; simp [hs]
  have d1 : decide ((d.length : Int) < (S.length : Int)) = true := decide_eq_true (by omega)
  have d0 : decide ((0 : Int) ≤ (d.length : Int)) = true := decide_eq_true (by omega)
  have p0 : decide ((0 : Int) < (S.length : Int)) = true := decide_eq_true (by omega)
  obtain ⟨y0, m0, e0, hg0⟩ := hS _ (List.getElem_mem hne)
  have hg0 : Ac (t := Al) S 0 = Bd fr to kd id h y0 m0 e0 := by
   have := Ao (t := Al) S 0 hne
   rw [hg0] at this
   exact this
  have ok := G.ok h0 hxe hm
  have k1 : G8 k (Bd fr to kd id h x m e) = some true := by rw [Cz, ok]
  have k2 : F89 k (Bd fr to kd id h x m e) = some true := by rw [Mz, ok]
  have s1 := Xba k fr to kd id h x y0 m m0 e e0
  have s2 := Xtm k fr to kd id h x y0 m m0 e e0
  have hxl : IntKind.i64.wrap (x + (e.length : Int)) = x + (e.length : Int) := i64_in _ (by omega)
  have hs' : S = (d ++ [Bd fr to kd id h x m e]) ++ r := by rw [hs]; simp
  have hl' : ((d ++ [Bd fr to kd id h x m e]).length : Int) = ((d.length + 1 : Nat) : Int) := by simp
  have rec1 : Es k (S, 15) n (x + (e.length : Int)) ((d.length + 1 : Nat) : Int) = some true ∧ Ej k (S, 15) n (x + (e.length : Int)) ((d.length + 1 : Nat) : Int) = some true := by
   rw [← hl']
   refine Xq7 k G S hS hSl hne n (d ++ [Bd fr to kd id h x m e]) r _ hs' hq (by omega) (fun hrn => .inr ⟨d, x, e, by rw [hr hrn], h0, rfl⟩) hxe (.inl (by simp)) (by simp at hn; omega)
  rw [Es, Ej]
  unfold Gu G9; (try dsimp only [As, Bo])
  rw [hg, hg0, D5 d.length (by omega)]
  have nx1 : Es k (S, 15) n (IntKind.i64.wrap (x + ((Bd fr to kd id h x m e).2.2.2.2.2.2.2.2.length : Int))) ((d.length + 1 : Nat) : Int) = some true := by
   rw [show IntKind.i64.wrap (x + ((Bd fr to kd id h x m e).2.2.2.2.2.2.2.2.length : Int)) = x + (e.length : Int) from hxl]; exact rec1.1
  have nx2 : Ej k (S, 15) n (IntKind.i64.wrap (x + ((Bd fr to kd id h x m e).2.2.2.2.2.2.2.2.length : Int))) ((d.length + 1 : Nat) : Int) = some true := by
   rw [show IntKind.i64.wrap (x + ((Bd fr to kd id h x m e).2.2.2.2.2.2.2.2.length : Int)) = x + (e.length : Int) from hxl]; exact rec1.2
  rcases hd (by simp) with rfl | ⟨dd, y, e', rfl, hy0, hy⟩
  ·have g0 : decide ((([] : Cw).length : Int) > 0) = false := rfl
   exact ⟨(ct d1).trans ((ct d0).trans ((ct d1).trans ((bs k1).trans ((cf rfl).trans ((ct p0).trans ((bs s1).trans ((cf rfl).trans ((cf g0).trans nx1)))))))), (ct d1).trans ((ct d0).trans ((ct d1).trans ((bs k2).trans ((cf rfl).trans ((ct p0).trans ((bs s2).trans ((cf rfl).trans ((cf g0).trans nx2))))))))⟩
  ·have hl2 : (dd ++ [Bd fr to kd id h y true e']).length = dd.length + 1 := by simp
   rw [hl2] at d1 d0 hj nx1 nx2 ⊢
   have g0 : decide (((dd.length + 1 : Nat) : Int) > 0) = true := decide_eq_true (by omega)
   have e1 : IntKind.i64.wrap (((dd.length + 1 : Nat) : Int) - 1) = (dd.length : Int) := by rw [i64_in _ (by omega)]; omega
   have q1 : decide ((dd.length : Int) < (S.length : Int)) = true := decide_eq_true (by omega)
   have q0 : decide ((0 : Int) ≤ (dd.length : Int)) = true := decide_eq_true (by omega)
   have hgp : Ac (t := Al) S (dd.length : Int) = Bd fr to kd id h y true e' := by rw [Ao S dd.length (by omega)]; simp [hs]
   rw [e1, hgp]
   have lt1 : decide ((Bd fr to kd id h x m e).2.2.2.2.2.1 < IntKind.i64.wrap ((Bd fr to kd id h y true e').2.2.2.2.2.1 + ((Bd fr to kd id h y true e').2.2.2.2.2.2.2.2.length : Int))) = false := by
    refine decide_eq_false ?_
    show ¬ x < IntKind.i64.wrap (y + (e'.length : Int))
    rw [i64_in _ (by omega)]
    omega
   exact ⟨(ct d1).trans ((ct d0).trans ((ct d1).trans ((bs k1).trans ((cf rfl).trans ((ct p0).trans ((bs s1).trans ((cf rfl).trans ((ct g0).trans ((ct q0).trans ((ct q1).trans ((ct q0).trans ((ct q1).trans ((cf lt1).trans ((ct q0).trans ((ct q1).trans ((cf rfl).trans nx1)))))))))))))))), (ct d1).trans ((ct d0).trans ((ct d1).trans ((bs k2).trans ((cf rfl).trans ((ct p0).trans ((bs s2).trans ((cf rfl).trans ((ct g0).trans ((ct q0).trans ((ct q1).trans ((cf lt1).trans ((cf rfl).trans nx2))))))))))))⟩
theorem X0 {fr to kd id h : Int} {x : Int} {S : Cw} {c : Bc} {f : Bool} (hS : Ch (Bd fr to kd id h) x S c f) : ∀ z ∈ S, isG fr to kd id h z := fun z hz => by
 obtain ⟨x', m, d, e, _⟩ := X9 _ hS hz
 exact ⟨x', m, d, e⟩
theorem Tj (k : Nat) {fr to kd id h : Int} (G : Gk fr to kd id h) {S : Cw} {c : Bc} {f : Bool} (hS : Ch (Bd fr to kd id h) 0 S c f) (hc : c.length ≤ 48) (hne : S ≠ []) (hk : 1048576 < k) : Ti k (S, 15) = some true ∧ Xei k (S, 15) = some true := by
 have hl := E7 _ hS
 exact Xq7 k G S (X0 hS) (by omega) (List.length_pos_iff.2 hne) k [] S 0 rfl (X42 _ hS (by omega)) (by omega) (fun _ => .inl rfl) (by omega) (.inr hne) (by omega)
theorem Xb9 (k : Nat) (hk : 1048576 < k) : Xb0 k [] = some true ∧ Xdm k [] = some true := by
 obtain ⟨n, rfl⟩ : ∃ n, k = n + 1 := ⟨k - 1, by omega⟩
 unfold Xb0 Uw Xdm T5; (try dsimp only)
 rw [F8, H6]
 exact ⟨rfl, rfl⟩
theorem Xwy (k : Nat) {fr to kd id h : Int} (G : Gk fr to kd id h) {S : Cw} {c : Bc} {f : Bool} (hS : Ch (Bd fr to kd id h) 0 S c f) (hc : c.length ≤ 48) (hne : S ≠ []) (hk : 1048576 < k) : Xb0 k [(S, 15)] = some true ∧ Xdm k [(S, 15)] = some true := by
 obtain ⟨o1, o2⟩ := Tj k G hS hc hne hk
 obtain ⟨n, rfl⟩ : ∃ n, k = n + 1 + 1 := ⟨k - 2, by omega⟩
 have w1 : IntKind.i64.wrap (0 + 1) = 1 := by decide
 constructor
 ·unfold Xb0 Uw; (try dsimp only)
  rw [F8]
  refine (ct rfl).trans ((ct rfl).trans ((ct rfl).trans ((bs o1).trans ((cf rfl).trans ?_))))
  have e : Lx (n + 1 + 1) [(S, 15)] (n + 1 + 1) 0 0 = some (.inr (0, 0)) := by
   rw [Lx]
   unfold Kt; (try dsimp only [As])
   exact (cf rfl).trans rfl
  refine (bs e).trans ?_
  show F8 (n + 1 + 1) [(S, 15)] (n + 1) (IntKind.i64.wrap (0 + 1)) = some true
  rw [w1, F8]
  exact (cf rfl).trans rfl
 ·unfold Xdm T5; (try dsimp only)
  rw [H6]
  unfold Gs; (try dsimp only [As])
  refine (ct rfl).trans ((ct rfl).trans ((ct rfl).trans ((bs o2).trans ((cf rfl).trans ((ct rfl).trans ?_)))))
  have e : Xmp (n + 1 + 1) (([(S, 15)] : List (den A4)).take (0 : Int).toNat) (Ac (t := A4) [(S, 15)] 0) = some (false, (S, 15)) := by
   unfold Xmp Xnh Zf; (try dsimp only)
   show (Kg (n + 1 + 1) [] (S, 15) (n + 1 + 1) 0 (S, 15)).bind _ = _
   rw [Kg]
   rfl
  refine (bs e).trans ((cf rfl).trans ?_)
  rw [w1, H6]
  unfold Gs; (try dsimp only [As])
  exact (cf rfl).trans rfl
def Xj4 (S : Cw) (x : Int) : Prop := ∀ z ∈ S, @LT.lt Int _ z.2.2.2.2.2.1 x
theorem Og {fr to kd id h : Int} : ∀ {S : Cw} {x : Int} {c : Bc}, Ch (Bd fr to kd id h) x S c true → Xj4 S (x + (c.length : Int))
 | [], _, _, _, z, hz => by cases hz
 | p :: S, x, c, hS, z, hz => by
  obtain ⟨m, d, c2, rfl, rfl, h | h⟩ := hS
  ·have hd := List.length_pos_iff.2 h.2.1
   rw [List.length_append]
   rcases List.mem_cons.1 hz with rfl | hz
   ·show x < _
    omega
   ·have := Og h.2.2 z hz
    rw [show x + ((d.length + c2.length : Nat) : Int) = x + (d.length : Int) + (c2.length : Int) by omega]
    exact this
  ·exact absurd h.2.2.2 (by decide)
theorem Xse (k : Nat) (S : Cw) (p : den Al) (hS : Xj4 S p.2.2.2.2.2.1) (hSl : S.length ≤ 1000) : ∀ (n j : Nat), j ≤ S.length → S.length - j < n → Lf k (S, 15) p n false (j : Int) = Hl k (S, 15) p k false 0 ([], 15)
 | 0, j, _, h => by omega
 | n + 1, j, hj, h => by
  rw [Lf]
  unfold Kk; (try dsimp only [As, Bo])
  rcases Nat.lt_or_ge j S.length with hlt | hge
  ·have d1 : decide ((j : Int) < (S.length : Int)) = true := decide_eq_true (by omega)
   have d0 : decide ((0 : Int) ≤ (j : Int)) = true := decide_eq_true (by omega)
   have hz := hS _ (List.getElem_mem hlt)
   rw [Ao S j hlt, D5 j (by omega)]
   have c : (S[j].2.2.2.2.2.1 == p.2.2.2.2.2.1) = false := beq_eq_false_iff_ne.2 (Int.ne_of_lt hz)
   exact (ct d1).trans ((ct d0).trans ((ct d1).trans ((cf c).trans (Xse k S p hS hSl n (j + 1) hlt (by omega)))))
  ·exact (cf (decide_eq_false (by show ¬ (j : Int) < (S.length : Int); omega))).trans rfl
theorem Xuj (k : Nat) (S : Cw) (p : den Al) (hS : Xj4 S p.2.2.2.2.2.1) (hSl : S.length ≤ 1000) (hd : ∀ z ∈ S, z.2.2.2.2.2.2.2.2.length ≤ 1048576) (hp : p.2.2.2.2.2.2.2.2.length ≤ 1048576) (ho : Ti k (S ++ [p], 15) = some true) : ∀ (n j : Nat), j ≤ S.length → S.length - j < n → Hl k (S, 15) p n false (j : Int) (S.take j, 15) = some ((S ++ [p], 15), true)
 | 0, j, _, h => by omega
 | n + 1, j, hj, h => by
  rw [Hl]
  unfold Kn; (try dsimp only [As, Bt, Bo])
  have ht : (S.take j).length = j := by rw [List.length_take]; omega
  rcases Nat.lt_or_ge j S.length with hlt | hge
  ·have d1 : decide ((j : Int) < (S.length : Int)) = true := decide_eq_true (by omega)
   have d0 : decide ((0 : Int) ≤ (j : Int)) = true := decide_eq_true (by omega)
   have hz := hS _ (List.getElem_mem hlt)
   unfold H4; (try dsimp only [As, Bt])
   rw [Ao S j hlt, D5 j (by omega)]
   have c : decide (p.2.2.2.2.2.1 < S[j].2.2.2.2.2.1) = false := decide_eq_false (by have := hz; exact Int.not_lt.2 (Int.le_of_lt hz))
   refine (ct d1).trans ((ct rfl).trans ((ct d0).trans ((ct d1).trans ((cf c).trans ((ct d0).trans ((ct d1).trans ((bs (N3 k S[j] (hd _ (List.getElem_mem hlt)))).trans ((ct (decide_eq_true (by show ((S.take j).length + 1) * 80 ≤ _; omega))).trans ?_))))))))
   have e : S.take j ++ [S[j]] = S.take (j + 1) := by rw [List.take_add_one, List.getElem?_eq_getElem hlt]; rfl
   rw [show ((S.take j, (15 : Int)) : den A4).1 ++ [S[j]] = S.take (j + 1) from e]
   exact Xuj k S p hS hSl hd hp ho n (j + 1) hlt (by omega)
  ·have e : S.take j = S := List.take_of_length_le hge
   rw [e]
   exact (cf (decide_eq_false (by show ¬ (j : Int) < (S.length : Int); omega))).trans ((ct rfl).trans ((bs (N3 k p hp)).trans ((ct (decide_eq_true (by show (S.length + 1) * 80 ≤ _; omega))).trans ((bs ho).trans ((cf rfl).trans rfl)))))
theorem Xax {fr to kd id h : Int} {S : Cw} (hS : ∀ z ∈ S, isG fr to kd id h z) (hne : 0 < S.length) : ∃ y m e, Ac (t := Al) S 0 = Bd fr to kd id h y m e := by
 obtain ⟨y0, m0, e0, hg0⟩ := hS _ (List.getElem_mem hne)
 have := Ao (t := Al) S 0 hne
 rw [hg0] at this
 exact ⟨_, _, _, this⟩
theorem Nt {fr to kd id h x : Int} {S : Cw} {c : Bc} {f : Bool} (hS : Ch (Bd fr to kd id h) x S c f) (hc : c.length ≤ 48) : ∀ z ∈ S, z.2.2.2.2.2.2.2.2.length ≤ 1048576 := fun z hz => by
 obtain ⟨x', m, d, rfl, _, e3, _⟩ := X9 _ hS hz
 show d.length ≤ 1048576
 omega
theorem Ybg (k : Nat) {fr to kd id h : Int} (G : Gk fr to kd id h) {S : Cw} {c : Bc} (hS : Ch (Bd fr to kd id h) 0 S c true) {m : Bool} {d : Bc} (hd : m = true → d ≠ []) (hc : c.length + d.length ≤ 48) (hne : S ≠ []) (hk : 1048576 < k) :
  Xob k (S, 15) (Bd fr to kd id h (c.length : Int) m d) = some ((S ++ [Bd fr to kd id h (c.length : Int) m d], 15), true) := by
 have hl := E7 _ hS
 have hp := List.length_pos_iff.2 hne
 have S' := Jv _ hS (by rw [Int.zero_add]; exact Jy (Bd fr to kd id h) (x := (c.length : Int)) hd)
 obtain ⟨o1, _⟩ := Tj k G hS (by omega) hne hk
 obtain ⟨o2, _⟩ := Tj k G S' (by rw [List.length_append]; omega) (by simp) hk
 have ah := Og hS
 rw [Int.zero_add] at ah
 have ok := G.ok (x := (c.length : Int)) (m := m) (d := d) (by omega) (by omega) hd
 obtain ⟨y, m0, e0, hg⟩ := Xax (X0 hS) hp
 unfold Xob X3; (try dsimp only)
 rw [hg]
 refine (bs o1).trans ((cf rfl).trans ((bs (show G8 k (Bd fr to kd id h (c.length : Int) m d) = some true by rw [Cz, ok])).trans ((cf rfl).trans ((ct (decide_eq_true (by show (0 : Int) < (S.length : Int); omega))).trans ((bs (Xba k fr to kd id h y (c.length : Int) m0 m e0 d)).trans ((cf rfl).trans ?_))))))
 refine (Xse k S _ ah (by omega) k 0 (Nat.zero_le _) (by omega)).trans ?_
 exact Xuj k S _ ah (by omega) (Nt hS (by omega)) (show d.length ≤ 1048576 by omega) o2 k 0 (Nat.zero_le _) (by omega)
end Go.Proofs.YtdmepjjepogddaaGreat.Gn
end

section
namespace Go.Proofs.YtdmepjjepogddaaGreat.Gn
open Go.Rf Go.IntWalk
set_option linter.unusedVariables false
set_option linter.unusedSimpArgs false
def Cd (g : Int → Bool → Bc → den Al) : Int → Cw → Bc → Prop
 | _, [], c => c = []
 | x, p :: l, c => ∃ m d c', p = g x m d ∧ c = d ++ c' ∧ Cd g (x + (d.length : Int)) l c'
theorem X49 (g : Int → Bool → Bc → den Al) : ∀ {l : Cw} {x : Int} {c : Bc} {f : Bool}, Ch g x l c f → Cd g x l c
 | [], _, _, _, h => h.1
 | p :: l, x, c, f, h => by
  obtain ⟨m, d, c2, rfl, rfl, h | h⟩ := h
  ·exact ⟨m, d, c2, rfl, rfl, X49 g h.2.2⟩
  ·refine ⟨m, d, c2, rfl, rfl, ?_⟩
   rw [h.2.1, h.2.2.1]
   rfl
theorem Xsv (k : Nat) (fr to kd id h : Int) (S : Cw) (hSl : S.length ≤ 1000) : ∀ (n : Nat) (d r : Cw) (dat c : Bc), S = d ++ r → Cd (Bd fr to kd id h) (dat.length : Int) r c → dat.length + c.length ≤ 48 → r.length < n →
  Im k (S, 15) n (d.length : Int) (fr, to, kd, h, id, 0, false, false, dat) = some ((fr, to, kd, h, id, 0, false, false, dat ++ c), true)
 | 0, _, _, _, _, _, _, _, hn => by omega
 | n + 1, d, [], dat, c, hs, hc, hl, hn => by
  have e1 : d.length = S.length := by rw [hs, List.append_nil]
  have hc : c = [] := hc
  subst hc
  rw [Im]
  unfold G6; (try dsimp only [As, Bt, Bo])
  rw [List.append_nil]
  exact (cf (decide_eq_false (by show ¬ (d.length : Int) < (S.length : Int); omega))).trans rfl
 | n + 1, d, p :: r, dat, c, hs, hc, hl, hn => by
  obtain ⟨m, e, c2, rfl, rfl, hc⟩ := hc
  rw [List.length_append] at hl
  have hj : d.length < S.length := by rw [hs]; simp
  have hg : Ac (t := Al) S (d.length : Int) = Bd fr to kd id h (dat.length : Int) m e := by rw [Ao S d.length hj]; simp [hs]
  have d1 : decide ((d.length : Int) < (S.length : Int)) = true := decide_eq_true (by omega)
  have d0 : decide ((0 : Int) ≤ (d.length : Int)) = true := decide_eq_true (by omega)
  have hl' : ((d ++ [Bd fr to kd id h (dat.length : Int) m e]).length : Int) = ((d.length + 1 : Nat) : Int) := by simp
  have ih := Xsv k fr to kd id h S hSl n (d ++ [Bd fr to kd id h (dat.length : Int) m e]) r (dat ++ e) c2 (by rw [hs]; simp) (by rw [List.length_append, Int.natCast_add]; exact hc) (by rw [List.length_append]; omega) (by simp at hn; omega)
  rw [hl', List.append_assoc] at ih
  rw [Im]
  unfold G6; (try dsimp only [As, Bt, Bo])
  rw [hg, D5 d.length (by omega)]
  have ne : ((Bd fr to kd id h (dat.length : Int) m e).2.2.2.2.2.1 != (dat.length : Int)) = false := bne_self_eq_false _
  exact (ct d1).trans ((ct d0).trans ((ct d1).trans ((cf ne).trans ((ct d0).trans ((ct d1).trans ((ct (decide_eq_true (by show (dat.length + e.length) * 1 ≤ _; omega))).trans ih))))))
theorem Xw9 (k : Nat) (fr to kd id h : Int) (S0 : Cw) (p : den Al) (S : Cw) (hS : S = S0 ++ [p]) (hSl : S.length ≤ 1000) (b : Bool) : ∀ (n : Nat) (d r : Cw) (dat c : Bc), S = d ++ r → Cd (Bd fr to kd id h) (dat.length : Int) r c → dat.length + c.length ≤ 48 → r.length < n →
  H7 k (S, 15) n (dat.length : Int) (d.length : Int) (fr, to, kd, h, id, 0, b, false, dat) = some (cond p.2.2.2.2.2.2.1 ((0, 0, 0, 0, 0, 0, false, false, []), false) ((fr, to, kd, h, id, 0, false, false, dat ++ c), true))
 | 0, _, _, _, _, _, _, _, hn => by omega
 | n + 1, d, [], dat, c, hs, hc, hl, hn => by
  have e1 : d.length = S.length := by rw [hs, List.append_nil]
  have hc : c = [] := hc
  subst hc
  have hSl2 : S.length = S0.length + 1 := by rw [hS]; simp
  rw [H7]
  unfold G3; (try dsimp only [As, Bt, Bo])
  have w : IntKind.i64.wrap ((S.length : Int) - 1) = (S0.length : Int) := by rw [i64_in _ (by omega)]; omega
  have hg : Ac (t := Al) S (S0.length : Int) = p := by rw [Ao S S0.length (by omega)]; simp [hS]
  rw [w, hg, List.append_nil]
  refine (cf (decide_eq_false (by show ¬ (d.length : Int) < (S.length : Int); omega))).trans ((ct (decide_eq_true (by omega))).trans ((ct (decide_eq_true (by omega))).trans ?_))
  cases p.2.2.2.2.2.2.1 with
  | true => rfl
  | false =>
   refine (cf rfl).trans ((bs (Id k (fr, to, kd, h, id, 0, false, false, dat) (show dat.length ≤ 1048576 by simp at hl; omega))).trans rfl)
 | n + 1, d, z :: r, dat, c, hs, hc, hl, hn => by
  obtain ⟨m, e, c2, rfl, rfl, hc⟩ := hc
  rw [List.length_append] at hl
  have hj : d.length < S.length := by rw [hs]; simp
  have hg : Ac (t := Al) S (d.length : Int) = Bd fr to kd id h (dat.length : Int) m e := by rw [Ao S d.length hj]; simp [hs]
  have d1 : decide ((d.length : Int) < (S.length : Int)) = true := decide_eq_true (by omega)
  have d0 : decide ((0 : Int) ≤ (d.length : Int)) = true := decide_eq_true (by omega)
  have hl' : ((d ++ [Bd fr to kd id h (dat.length : Int) m e]).length : Int) = ((d.length + 1 : Nat) : Int) := by simp
  have hx : (((dat ++ e).length : Nat) : Int) = IntKind.i64.wrap ((dat.length : Int) + (e.length : Int)) := by rw [i64_in _ (by omega), List.length_append]; omega
  have ih := Xw9 k fr to kd id h S0 p S hS hSl b n (d ++ [Bd fr to kd id h (dat.length : Int) m e]) r (dat ++ e) c2 (by rw [hs]; simp) (by rw [List.length_append, Int.natCast_add]; exact hc) (by rw [List.length_append]; omega) (by simp at hn; omega)
  rw [hl', hx, List.append_assoc] at ih
  rw [H7]
  unfold G3; (try dsimp only [As, Bt, Bo])
  rw [hg, D5 d.length (by omega)]
  have ne : ((Bd fr to kd id h (dat.length : Int) m e).2.2.2.2.2.1 != (dat.length : Int)) = false := bne_self_eq_false _
  exact (ct d1).trans ((ct d0).trans ((ct d1).trans ((cf ne).trans ((ct (decide_eq_true (by show (dat.length + e.length) * 1 ≤ _; omega))).trans ih))))
def Xbx (fr to kd id h : Int) (m : Bool) (c : Bc) : den Al × Bool := cond m ((0, 0, 0, 0, 0, 0, false, false, []), false) ((fr, to, kd, h, id, 0, false, false, c), true)
theorem Xz3 (k : Nat) {fr to kd id h : Int} (G : Gk fr to kd id h) {S : Cw} {c : Bc} (hS : Ch (Bd fr to kd id h) 0 S c true) {m : Bool} {d : Bc} (hd : m = true → d ≠ []) (hc : c.length + d.length ≤ 48) (hne : S ≠ []) (hk : 1048576 < k) :
  Xmg k (S ++ [Bd fr to kd id h (c.length : Int) m d], 15) = some (Xbx fr to kd id h m (c ++ d)) ∧ Xm6 k (S ++ [Bd fr to kd id h (c.length : Int) m d], 15) = some (Xbx fr to kd id h m (c ++ d)) := by
 have hl := E7 _ hS
 have hp := List.length_pos_iff.2 hne
 have S' := Jv _ hS (by rw [Int.zero_add]; exact Jy (Bd fr to kd id h) (x := (c.length : Int)) hd)
 obtain ⟨o2, _⟩ := Tj k G S' (by rw [List.length_append]; omega) (by simp) hk
 have hcd := X49 _ S'
 cases S with
 | nil => exact absurd rfl hne
 | cons z S =>
  obtain ⟨m0, e0, c0, rfl, hce, _⟩ := hS
  have hlen : (Bd fr to kd id h 0 m0 e0 :: S ++ [Bd fr to kd id h (c.length : Int) m d]).length = S.length + 2 := by simp
  have hlen0 : (Bd fr to kd id h 0 m0 e0 :: S).length = S.length + 1 := rfl
  rw [hlen0] at hl
  have he0 : e0.length ≤ 48 := by
   have e3 := congrArg List.length hce
   rw [List.length_append] at e3
   omega
  have g0 : Ac (t := Al) (Bd fr to kd id h 0 m0 e0 :: S ++ [Bd fr to kd id h (c.length : Int) m d]) 0 = Bd fr to kd id h 0 m0 e0 := rfl
  have w : IntKind.i64.wrap (((S.length + 2 : Nat) : Int) - 1) = ((S.length + 1 : Nat) : Int) := by rw [i64_in _ (by omega)]; omega
  have hg : Ac (t := Al) (Bd fr to kd id h 0 m0 e0 :: S ++ [Bd fr to kd id h (c.length : Int) m d]) ((S.length + 1 : Nat) : Int) = Bd fr to kd id h (c.length : Int) m d := by
   rw [Ao _ (S.length + 1) (by rw [hlen]; omega)]; simp
  constructor
  ·have lp := Xsv k fr to kd id h (Bd fr to kd id h 0 m0 e0 :: S ++ [Bd fr to kd id h (c.length : Int) m d]) (by rw [hlen]; omega) k [] (Bd fr to kd id h 0 m0 e0 :: S ++ [Bd fr to kd id h (c.length : Int) m d]) [] (c ++ d) rfl hcd (by rw [List.length_nil, List.length_append]; omega) (by rw [hlen]; omega)
   unfold Xmg Xbg Xbx; (try dsimp only [As, Bo])
   rw [hlen, w, hg, g0]
   refine (bs o2).trans ((cf rfl).trans ((ct (decide_eq_true (by omega))).trans ((ct (decide_eq_true (by omega))).trans ?_)))
   cases m with
   | true => rfl
   | false => exact (cf rfl).trans ((ct (decide_eq_true (by omega))).trans lp)
  ·have lp := Xw9 k fr to kd id h (Bd fr to kd id h 0 m0 e0 :: S) (Bd fr to kd id h (c.length : Int) m d) (Bd fr to kd id h 0 m0 e0 :: S ++ [Bd fr to kd id h (c.length : Int) m d]) rfl (by rw [hlen]; omega) m0 k [] (Bd fr to kd id h 0 m0 e0 :: S ++ [Bd fr to kd id h (c.length : Int) m d]) [] (c ++ d) rfl hcd (by rw [List.length_nil, List.length_append]; omega) (by rw [hlen]; omega)
   unfold Xm6 Yy Xbx; (try dsimp only)
   rw [g0, hlen]
   exact (ct (decide_eq_true (by omega))).trans ((bs (Id k (Bd fr to kd id h 0 m0 e0) (show e0.length ≤ 1048576 by omega))).trans lp)
theorem X44 (k : Nat) (S : Cw) (p : den Al) (hS : Xj4 S p.2.2.2.2.2.1) (hSl : S.length ≤ 1000) : ∀ (n j : Nat), j ≤ S.length → S.length - j < n → K7 k S p n (j : Int) p = some (-1, p) ∧ Ey k S p n (j : Int) p = some (-1, p)
 | 0, j, _, h => by omega
 | n + 1, j, hj, h => by
  rw [K7, Ey]
  unfold Lc Fy; (try dsimp only [As])
  rcases Nat.lt_or_ge j S.length with hlt | hge
  ·have d1 : decide ((j : Int) < (S.length : Int)) = true := decide_eq_true (by omega)
   have d0 : decide ((0 : Int) ≤ (j : Int)) = true := decide_eq_true (by omega)
   have hz := hS _ (List.getElem_mem hlt)
   obtain ⟨i1, i2⟩ := X44 k S p hS hSl n (j + 1) hlt (by omega)
   rw [Ao S j hlt, D5 j (by omega)]
   have e1 : Xoi k S[j] p = some (false, p) := by
    unfold Xoi Yn; (try dsimp only)
    exact (cf (beq_eq_false_iff_ne.2 (Int.ne_of_lt hz))).trans rfl
   have e2 : Xm4 k S[j] p = some (false, p) := by
    unfold Xm4; (try dsimp only)
    rw [show decide (S[j].2.2.2.2.2.1 > p.2.2.2.2.2.1) = false from decide_eq_false (Int.not_lt.2 (Int.le_of_lt hz))]
   exact ⟨(ct d1).trans ((ct d0).trans ((ct d1).trans ((bs e1).trans ((cf rfl).trans i1)))), (ct d1).trans ((ct d0).trans ((ct d1).trans ((bs e2).trans ((cf rfl).trans i2))))⟩
  ·have c : decide ((j : Int) < (S.length : Int)) = false := decide_eq_false (by omega)
   exact ⟨(cf c).trans rfl, (cf c).trans rfl⟩
theorem Yiv (k : Nat) {fr to kd id h : Int} (G : Gk fr to kd id h) {S : Cw} {c : Bc} (hS : Ch (Bd fr to kd id h) 0 S c true) {m : Bool} {d : Bc} (hd : m = true → d ≠ []) (hc : c.length + d.length ≤ 48) (hne : S ≠ []) (hk : 1048576 < k) :
  Xmo k (S, 15) (Bd fr to kd id h (c.length : Int) m d) = some ((S ++ [Bd fr to kd id h (c.length : Int) m d], 15), true) := by
 have hl := E7 _ hS
 have hp := List.length_pos_iff.2 hne
 have S' := Jv _ hS (by rw [Int.zero_add]; exact Jy (Bd fr to kd id h) (x := (c.length : Int)) hd)
 have hc' : (c ++ d).length ≤ 48 := by rw [List.length_append]; omega
 obtain ⟨_, o2⟩ := Tj k G S' hc' (by simp) hk
 have ah := Og hS
 rw [Int.zero_add] at ah
 obtain ⟨i1, i2⟩ := X44 k S (Bd fr to kd id h (c.length : Int) m d) ah (by omega) k 0 (Nat.zero_le _) (by omega)
 have e1 : Xml k S (Bd fr to kd id h (c.length : Int) m d) = some (false, Bd fr to kd id h (c.length : Int) m d) := by
  unfold Xml; (try dsimp only)
  exact (bs i1).trans rfl
 have e3 : Xe2 k S = some S := by
  unfold Xe2 Z9; (try dsimp only [Bt])
  exact (cf (decide_eq_false (by omega))).trans ((ct (decide_eq_true (by rw [List.length_nil]; omega))).trans (by rw [List.nil_append]))
 have e4 : Xhf k S (S.length : Int) [Bd fr to kd id h (c.length : Int) m d] = some (S ++ [Bd fr to kd id h (c.length : Int) m d]) := by
  unfold Xhf X2; (try dsimp only [Bt])
  refine (ct (by rw [decide_eq_true (by omega), decide_eq_true (by omega)]; rfl)).trans ((cf rfl).trans ((ct (beq_self_eq_true _)).trans ((ct (decide_eq_true (by rw [List.length_singleton]; omega))).trans rfl)))
 have e5 : Tl k (S ++ [Bd fr to kd id h (c.length : Int) m d], 15) = some (S ++ [Bd fr to kd id h (c.length : Int) m d], 15) := by
  unfold Tl; (try dsimp only)
  exact (bs (Ho k _ (by simp; omega) (Nt S' hc') hk)).trans rfl
 unfold Xmo Zw; (try dsimp only [Bo])
 exact (bs e1).trans ((cf rfl).trans ((bs i2).trans ((ct rfl).trans ((bs e3).trans ((bs e4).trans ((bs o2).trans ((cf rfl).trans ((bs e5).trans rfl))))))))
end Go.Proofs.YtdmepjjepogddaaGreat.Gn
end

section
namespace Go.Proofs.YtdmepjjepogddaaGreat.Gn
open Go.Rf Go.IntWalk
set_option linter.unusedVariables false
set_option linter.unusedSimpArgs false
abbrev prL : Type := List (den A4)
theorem Xa0 (k : Nat) (hk : 1048576 < k) : Q8 k [] = some [] := by
 obtain ⟨n, rfl⟩ : ∃ n, k = n + 1 := ⟨k - 1, by omega⟩
 unfold Q8 Ub; (try dsimp only)
 rw [Ia]
 unfold Ew; (try dsimp only [As, Bt])
 exact (cf rfl).trans rfl
theorem Xfx (k : Nat) {T : Cw} (hT : T.length ≤ 1000) (hs : ∀ z ∈ T, z.2.2.2.2.2.2.2.2.length ≤ 1048576) (hk : 1048576 < k) : Q8 k [(T, 15)] = some [(T, 15)] := by
 have e5 : Tl k (T, 15) = some (T, 15) := by
  unfold Tl; (try dsimp only)
  exact (bs (Ho k T (by omega) hs hk)).trans rfl
 obtain ⟨n, rfl⟩ : ∃ n, k = n + 1 + 1 := ⟨k - 2, by omega⟩
 unfold Q8 Ub; (try dsimp only)
 rw [Ia]
 unfold Ew; (try dsimp only [As, Bt])
 refine (ct rfl).trans ((ct rfl).trans ((ct rfl).trans ((bs e5).trans ((ct rfl).trans ?_))))
 rw [show IntKind.i64.wrap (0 + 1) = 1 by decide, Ia]
 unfold Ew; (try dsimp only [As, Bt])
 exact (cf rfl).trans rfl
theorem X39 (k : Nat) (hk : 1048576 < k) : Xc5 k [] 0 = some ([], 0) := by
 obtain ⟨n, rfl⟩ : ∃ n, k = n + 1 := ⟨k - 1, by omega⟩
 unfold Xc5 Uu; (try dsimp only)
 have e : J9 (n + 1) [] 0 = some (-1, [], 0) := by
  unfold J9 I9; (try dsimp only)
  rw [Dz]
  unfold C7; (try dsimp only [As])
  exact (cf rfl).trans rfl
 exact (bs e).trans ((ct rfl).trans rfl)
theorem Yh1 (k : Nat) (T : Cw) (hk : 1048576 < k) : Xc5 k [(T, 15)] 0 = some ([(T, 15)], 0) := by
 obtain ⟨n, rfl⟩ : ∃ n, k = n + 1 + 1 := ⟨k - 2, by omega⟩
 unfold Xc5 Uu; (try dsimp only)
 have e : J9 (n + 1 + 1) [(T, 15)] 0 = some (-1, [(T, 15)], 0) := by
  unfold J9 I9; (try dsimp only)
  rw [Dz]
  unfold C7; (try dsimp only [As])
  refine (ct rfl).trans ((ct rfl).trans ((ct rfl).trans ((bs (show Xw0 (n + 1 + 1) (T, 15) 0 = some (false, 0) from rfl)).trans ((cf rfl).trans ?_))))
  rw [show IntKind.i64.wrap (0 + 1) = 1 by decide, Dz]
  unfold C7; (try dsimp only [As])
  exact (cf rfl).trans rfl
 exact (bs e).trans ((ct rfl).trans rfl)
theorem Ygy (k : Nat) (p : den Al) (hk : 1048576 < k) : I5 k [] p = some (-1, [], p) := by
 obtain ⟨n, rfl⟩ : ∃ n, k = n + 1 := ⟨k - 1, by omega⟩
 unfold I5 Jz; (try dsimp only)
 rw [E1]
 unfold Ea; (try dsimp only [As])
 exact (cf rfl).trans rfl
theorem Yi8 (k : Nat) {fr to kd id h x : Int} {m : Bool} {d : Bc} {S : Cw} (hS : ∀ z ∈ S, isG fr to kd id h z) (hne : 0 < S.length) (hk : 1048576 < k) : I5 k [(S, 15)] (Bd fr to kd id h x m d) = some (0, [(S, 15)], Bd fr to kd id h x m d) := by
 obtain ⟨n, rfl⟩ : ∃ n, k = n + 1 := ⟨k - 1, by omega⟩
 obtain ⟨y, m0, e0, hg⟩ := Xax hS hne
 unfold I5 Jz; (try dsimp only)
 rw [E1]
 unfold Ea; (try dsimp only [As])
 have e : Xnq (n + 1) (S, 15) (Bd fr to kd id h x m d) = some (true, Bd fr to kd id h x m d) := by
  unfold Xnq Xbm; (try dsimp only)
  rw [hg]
  exact (ct (decide_eq_true (by show (0 : Int) < (S.length : Int); omega))).trans ((bs (Xtm (n + 1) fr to kd id h y x m0 m e0 d)).trans rfl)
 exact (ct rfl).trans ((ct rfl).trans ((ct rfl).trans ((bs e).trans ((ct rfl).trans rfl))))
theorem Yjx (k : Nat) {fr to kd id h : Int} (G : Gk fr to kd id h) {c : Bc} (hc : c.length ≤ 48) (hk : 1048576 < k) :
  F62 k [] (Bd fr to kd id h 0 false c) 0 = some ([], Bd fr to kd id h 0 false c, true) ∧ Vh k [] (Bd fr to kd id h 0 false c) 0 = some ([], Bd fr to kd id h 0 false c, true) := by
 have ok := G.ok (x := 0) (m := false) (d := c) (by omega) (by omega) (fun e => by cases e)
 have k1 : G8 k (Bd fr to kd id h 0 false c) = some true := by rw [Cz, ok]
 have k2 : F89 k (Bd fr to kd id h 0 false c) = some true := by rw [Mz, ok]
 have o := Xb9 k hk
 have cp := N3 k (Bd fr to kd id h 0 false c) (show c.length ≤ 1048576 by omega)
 have cq := Id k (Bd fr to kd id h 0 false c) (show c.length ≤ 1048576 by omega)
 constructor
 ·obtain ⟨n, rfl⟩ : ∃ n, k = n + 1 := ⟨k - 1, by omega⟩
  unfold F62 Wo; (try dsimp only)
  refine (bs o.1).trans ((cf rfl).trans ((bs k1).trans ((cf rfl).trans ((bs (Bm _ 0 0 999985)).trans ((cf rfl).trans ((ct rfl).trans ?_))))))
  rw [Il]
  unfold D9; (try dsimp only [As, Bt])
  exact (cf rfl).trans ((ct rfl).trans ((bs cp).trans rfl))
 ·unfold Vh Re; (try dsimp only)
  exact (bs o.2).trans ((cf rfl).trans ((bs k2).trans ((cf rfl).trans ((bs (C1 k 0 0 999985)).trans ((cf rfl).trans ((bs (Xa0 k hk)).trans ((bs (X39 k hk)).trans ((ct rfl).trans ((ct rfl).trans ((bs (Xa0 k hk)).trans ((bs cq).trans rfl)))))))))))
theorem Yhk (k : Nat) {fr to kd id h : Int} (G : Gk fr to kd id h) {d : Bc} (hd : d ≠ []) (hc : d.length ≤ 48) (hk : 1048576 < k) :
  F62 k [] (Bd fr to kd id h 0 true d) 0 = some ([([Bd fr to kd id h 0 true d], 15)], noP, false) ∧ Vh k [] (Bd fr to kd id h 0 true d) 0 = some ([([Bd fr to kd id h 0 true d], 15)], noP, false) := by
 have ok := G.ok (x := 0) (m := true) (d := d) (by omega) (by omega) (fun _ => hd)
 have k1 : G8 k (Bd fr to kd id h 0 true d) = some true := by rw [Cz, ok]
 have k2 : F89 k (Bd fr to kd id h 0 true d) = some true := by rw [Mz, ok]
 have o := Xb9 k hk
 have cp := N3 k (Bd fr to kd id h 0 true d) (show d.length ≤ 1048576 by omega)
 have w15 : IntKind.i64.wrap (0 + 15) = 15 := by decide
 constructor
 ·obtain ⟨n, rfl⟩ : ∃ n, k = n + 1 := ⟨k - 1, by omega⟩
  unfold F62 Wo; (try dsimp only)
  refine (bs o.1).trans ((cf rfl).trans ((bs k1).trans ((cf rfl).trans ((bs (Bm _ 0 0 999985)).trans ((cf rfl).trans ((ct rfl).trans ?_))))))
  rw [Il]
  unfold D9; (try dsimp only [As, Bt])
  rw [w15]
  exact (cf rfl).trans ((cf rfl).trans ((ct rfl).trans ((bs cp).trans ((ct rfl).trans ((cf rfl).trans rfl)))))
 ·have p1 := Xfx k (T := [Bd fr to kd id h 0 true d]) (by simp) (fun z hz => by obtain rfl := List.mem_singleton.1 hz; show d.length ≤ 1048576; omega) hk
  unfold Vh Re; (try dsimp only)
  refine (bs o.2).trans ((cf rfl).trans ((bs k2).trans ((cf rfl).trans ((bs (C1 k 0 0 999985)).trans ((cf rfl).trans ((bs (Xa0 k hk)).trans ((bs (X39 k hk)).trans ((ct rfl).trans ((cf rfl).trans ?_)))))))))
  unfold Nx; (try dsimp only [As, Bt])
  refine (bs (Ygy k _ hk)).trans ((ct rfl).trans ((ct rfl).trans ?_))
  dsimp only
  rw [w15]
  have w2 : IntKind.i64.wrap (((([] ++ [([Bd fr to kd id h 0 true d], 15)] : prL)).length : Int) - 3) = -2 := by show IntKind.i64.wrap (1 - 3) = -2; decide
  rw [w2]
  exact (ct rfl).trans ((bs p1).trans rfl)
theorem Ykd (k : Nat) {fr to kd id h : Int} (G : Gk fr to kd id h) {S : Cw} {c : Bc} (hS : Ch (Bd fr to kd id h) 0 S c true) {m : Bool} {d : Bc} (hd : m = true → d ≠ []) (hc : c.length + d.length ≤ 48) (hne : S ≠ []) (hk : 1048576 < k) :
  F62 k [(S, 15)] (Bd fr to kd id h (c.length : Int) m d) 0 = some (cond m [(S ++ [Bd fr to kd id h (c.length : Int) m d], 15)] [], (Xbx fr to kd id h m (c ++ d)).1, (Xbx fr to kd id h m (c ++ d)).2) ∧
  Vh k [(S, 15)] (Bd fr to kd id h (c.length : Int) m d) 0 = some (cond m [(S ++ [Bd fr to kd id h (c.length : Int) m d], 15)] [], (Xbx fr to kd id h m (c ++ d)).1, (Xbx fr to kd id h m (c ++ d)).2) := by
 have hl := E7 _ hS
 have hp := List.length_pos_iff.2 hne
 have hcp : 0 < c.length := by
  have := Og hS
  cases S with
  | nil => exact absurd rfl hne
  | cons z S =>
   obtain ⟨m0, e0, c0, rfl, rfl, h | h⟩ := hS
   ·have := List.length_pos_iff.2 h.2.1
    rw [List.length_append]; omega
   ·exact absurd h.2.2.2 (by decide)
 have ok := G.ok (x := (c.length : Int)) (m := m) (d := d) (by omega) (by omega) hd
 have k1 : G8 k (Bd fr to kd id h (c.length : Int) m d) = some true := by rw [Cz, ok]
 have k2 : F89 k (Bd fr to kd id h (c.length : Int) m d) = some true := by rw [Mz, ok]
 have o := Xwy k G hS (by omega) hne hk
 obtain ⟨y, m0, e0, hg⟩ := Xax (X0 hS) hp
 have pc := Ybg k G hS hd hc hne hk
 have pi := Yiv k G hS hd hc hne hk
 have wh := Xz3 k G hS hd hc hne hk
 have S' := Jv _ hS (by rw [Int.zero_add]; exact Jy (Bd fr to kd id h) (x := (c.length : Int)) hd)
 have hc' : (c ++ d).length ≤ 48 := by rw [List.length_append]; omega
 have p1 := Xfx k (T := S) (by omega) (Nt hS (by omega)) hk
 have p2 := Xfx k (T := S ++ [Bd fr to kd id h (c.length : Int) m d]) (by simp; omega) (Nt S' hc') hk
 have at0 : ((Bd fr to kd id h (c.length : Int) m d).2.2.2.2.2.1 == (0 : Int)) = false := beq_eq_false_iff_ne.2 (by show ¬ (c.length : Int) = 0; omega)
 have w1 : IntKind.i64.wrap (0 + 1) = 1 := by decide
 constructor
 ·obtain ⟨n, rfl⟩ : ∃ n, k = n + 1 + 1 := ⟨k - 2, by omega⟩
  unfold F62 Wo; (try dsimp only)
  refine (bs o.1).trans ((cf rfl).trans ((bs k1).trans ((cf rfl).trans ((bs (Bm _ 0 0 999985)).trans ((cf rfl).trans ((cf at0).trans ?_))))))
  rw [Il]
  unfold D9; (try dsimp only [As, Bt])
  rw [show Ac (t := A4) [(S, 15)] 0 = (S, 15) from rfl, hg]
  refine (ct rfl).trans ((ct rfl).trans ((ct rfl).trans ((cf rfl).trans ((ct rfl).trans ((ct (decide_eq_true (by show (0 : Int) < (S.length : Int); omega))).trans ((bs (Xba _ fr to kd id h y (c.length : Int) m0 m e0 d)).trans ((ct rfl).trans ((bs pc).trans ((bs wh.1).trans ((ct rfl).trans ?_))))))))))
  rw [w1]
  cases m with
  | true =>
   refine (ct rfl).trans ((ct rfl).trans ?_)
   rw [Il]
   unfold D9; (try dsimp only [As, Bt])
   exact (cf rfl).trans ((cf rfl).trans ((cf rfl).trans ((cf rfl).trans rfl)))
  | false =>
   refine (cf rfl).trans ?_
   rw [Il]
   unfold D9; (try dsimp only [As, Bt])
   exact (cf rfl).trans ((cf rfl).trans ((cf rfl).trans ((cf rfl).trans rfl)))
 ·unfold Vh Re; (try dsimp only)
  refine (bs o.2).trans ((cf rfl).trans ((bs k2).trans ((cf rfl).trans ((bs (C1 k 0 0 999985)).trans ((cf rfl).trans ((bs p1).trans ((bs (Yh1 k S hk)).trans ((cf at0).trans ?_))))))))
  unfold Nx; (try dsimp only [As, Bt])
  refine (bs (Yi8 k (X0 hS) hp hk)).trans ((cf rfl).trans ((ct rfl).trans ((ct rfl).trans ?_)))
  refine (bs pi).trans ((cf rfl).trans ((bs wh.2).trans ?_))
  cases m with
  | true => exact (cf rfl).trans ((ct rfl).trans ((ct rfl).trans ((bs p2).trans rfl)))
  | false =>
   dsimp only
   rw [w1]
   exact (ct rfl).trans ((bs (show X3n k [(S, 15)] 0 1 = some [] from rfl)).trans ((bs (Xa0 k hk)).trans rfl))
end Go.Proofs.YtdmepjjepogddaaGreat.Gn
end

section
namespace Go.Proofs.YtdmepjjepogddaaGreat.Gn
open Go.Rf Go.IntWalk
set_option linter.unusedVariables false
set_option linter.unusedSimpArgs false
theorem Xsy (k : Nat) {fr to kd id h : Int} (G : Gk fr to kd id h) (v : Ks) (w p q o : Int) (cc : Bc) (t : den Db) (ht : t.1.length ≤ 1000) (hk : 1048576 < k) : ∀ (n : Nat) (S R : Cw) (c1 c2 : Bc), t.1 = S ++ R → Ch (Bd fr to kd id h) 0 S c1 true → Ch (Bd fr to kd id h) (c1.length : Int) R c2 false → c1.length + c2.length ≤ 48 → R.length < n →
  Hu k v w p q o cc n (S.length : Int) t (if S = [] then [] else [(S, 15)]) = some (c1 ++ c2, true) ∧ Jl k v w p q o cc n (t.1.length : Int) (S.length : Int) t.1 (if S = [] then [] else [(S, 15)]) = some (c1 ++ c2, true)
 | 0, _, _, _, _, _, _, _, _, h => by omega
 | n + 1, S, [], c1, c2, _, _, hR, _, _ => absurd hR.2 (by decide)
 | n + 1, S, r :: R, c1, c2, hT, hS, hR, hc, hn => by
  obtain ⟨m, d, c3, rfl, rfl, hR⟩ := hR
  rw [List.length_append] at hc
  have hd : m = true → d ≠ [] := fun e => by
   rcases hR with h2 | h2
   ·exact h2.2.1
   ·rw [h2.1] at e; cases e
  have hj : S.length < t.1.length := by rw [hT]; simp
  have hg : Ac (t := Al) t.1 (S.length : Int) = Bd fr to kd id h (c1.length : Int) m d := by rw [Ao t.1 S.length hj]; simp [hT]
  have d1 : decide ((S.length : Int) < (t.1.length : Int)) = true := decide_eq_true (by omega)
  have d0 : decide ((0 : Int) ≤ (S.length : Int)) = true := decide_eq_true (by omega)
  have one := Jy (Bd fr to kd id h) (x := 0 + (c1.length : Int)) hd
  have S' := Jv _ hS one
  rw [Int.zero_add] at S'
  have he : ∃ q1 : den Al, q1.2.2.2.2.2.2.2.2 = c1 ++ d ∧ (F62 k (if S = [] then [] else [(S, 15)]) (Bd fr to kd id h (c1.length : Int) m d) 0 = some (cond m ([(S ++ [Bd fr to kd id h (c1.length : Int) m d], 15)], noP, false) ([], q1, true))) ∧
    (Vh k (if S = [] then [] else [(S, 15)]) (Bd fr to kd id h (c1.length : Int) m d) 0 = some (cond m ([(S ++ [Bd fr to kd id h (c1.length : Int) m d], 15)], noP, false) ([], q1, true))) := by
   by_cases hs : S = []
   ·subst hs
    obtain ⟨rfl, _⟩ := hS
    rw [if_pos rfl]
    cases m with
    | true =>
     obtain ⟨b1, b2⟩ := Yhk k G (hd rfl) (by omega) hk
     exact ⟨(0, 0, 0, 0, 0, 0, false, false, [] ++ d), rfl, b1, b2⟩
    | false =>
     obtain ⟨b1, b2⟩ := Yjx k G (c := d) (by omega) hk
     exact ⟨Bd fr to kd id h 0 false d, rfl, b1, b2⟩
   ·rw [if_neg hs]
    obtain ⟨b1, b2⟩ := Ykd k G hS hd (by omega) hs hk
    refine ⟨(fr, to, kd, h, id, 0, false, false, c1 ++ d), rfl, ?_, ?_⟩
    ·rw [b1]; cases m <;> rfl
    ·rw [b2]; cases m <;> rfl
  obtain ⟨q1, hq, h1, h2⟩ := he
  rw [Hu, Jl]
  unfold Hh Jw; (try dsimp only [As, Bt])
  rw [hg, h1, h2, D5 S.length (by omega)]
  rcases hR with ⟨rfl, _, h3⟩ | ⟨rfl, rfl, rfl, _⟩
  ·have ih := Xsy k G v w p q o cc t ht hk n (S ++ [Bd fr to kd id h (c1.length : Int) true d]) R (c1 ++ d) c3 (by rw [hT]; simp) S' (by rw [List.length_append, Int.natCast_add]; exact h3) (by rw [List.length_append]; omega) (by simp at hn; omega)
   rw [if_neg (by simp), List.append_assoc, show (((S ++ [Bd fr to kd id h (c1.length : Int) true d]).length : Nat) : Int) = ((S.length + 1 : Nat) : Int) by simp] at ih
   exact ⟨(ct d1).trans ((ct d0).trans ((ct d1).trans ((bs rfl).trans ((cf rfl).trans ih.1)))), (ct d1).trans ((ct d0).trans ((ct d1).trans ((bs rfl).trans ((cf rfl).trans ih.2))))⟩
  ·have hl : q1.2.2.2.2.2.2.2.2.length ≤ 48 := by rw [hq, List.length_append]; simp at hc; omega
   refine ⟨(ct d1).trans ((ct d0).trans ((ct d1).trans ((bs rfl).trans ((ct rfl).trans ((ct (decide_eq_true (by show (0 + q1.2.2.2.2.2.2.2.2.length) * 1 ≤ _; omega))).trans ?_))))), (ct d1).trans ((ct d0).trans ((ct d1).trans ((bs rfl).trans ((ct rfl).trans ((bs (K6 k _ (show q1.2.2.2.2.2.2.2.2.length ≤ 4194304 by omega))).trans ?_)))))⟩
   ·rw [List.append_nil, ← hq]; rfl
   ·rw [List.append_nil, ← hq]
theorem sent (q : Nat) {v : Ks} {a : Nat} {s : den sta} (hs : v[a]? = some s) {to kd id : Int} {c : Bc} (hv : ∀ s ∈ v, StaOk (q + 4) s) (hvl : v.length ≤ 5) (hto : 0 ≤ to ∧ to ≤ 65535) (hkd : 0 ≤ kd ∧ kd ≤ 255) (hid : 0 ≤ id ∧ id ≤ 255) (hc : c.length ≤ 48) (hb : BOk c) (hk : 1048576 < q + 4) (hN : F59 (q + 4) v = some true) :
  ∃ t : den Db, F61 (q + 4) v (a : Int) (s.1, to, kd, 64, id, 0, false, false, c) = some t ∧ Xn8 (q + 4) v (a : Int) (s.1, to, kd, 64, id, 0, false, false, c) = some t ∧ (t.1 = [] ∨ ∃ h : Int, (0 ≤ h ∧ h ≤ 64) ∧ Ch (Bd s.1 to kd id h) 0 t.1 c false) := by
 obtain ⟨hi, hse⟩ := List.getElem?_eq_some_iff.1 hs
 have sk := hv _ (List.getElem_mem hi)
 rw [hse] at sk
 have hfr : 0 ≤ (s.1 : Int) ∧ (s.1 : Int) ≤ 65535 := A8 sk.at1
 have ok : Lr (s.1, to, kd, 64, id, 0, false, false, c) = true := My hfr hto hkd (by omega) hid (by omega) hc (fun e => by cases e) (fun e => by cases e)
 obtain ⟨t, t1, t2, _⟩ := trav q v (a : Int) (s.1, to, kd, 64, id, 0, false, false, c) hv hvl hk 12288 (q + 4) (q + 4) 0 ([], [], 0) [(a : Int)] [(s.1, to, kd, 64, id, 0, false, false, c)] rfl (by simp) (fun x hx => by
   have e : x = (a : Int) := by simpa using hx
   rw [e]; show (0 : Int) ≤ (a : Int) ∧ (a : Int) < (v.length : Int); omega) (fun r hr => by
   have e := List.mem_singleton.1 (show r ∈ [((s.1, to, kd, 64, id, 0, false, false, c) : den Al)] from hr)
   rw [e]; exact ⟨ok, hb⟩) (by
   have := Yir ok
   rw [List.drop_zero]
   simp only [A7]
   omega) (by omega) (by omega) (by omega) (by simp) (by simp) (fun r h => by cases h) (fun r h => by cases h) (by show (0 : Int) ≤ 0 ∧ (0 : Int) + ((12288 : Nat) : Int) ≤ 20000; omega)
 have I : Inv v s.1 to kd id c (([], [], 0) : den Db).1 [((a : Int), s.1, to, kd, 64, id, 0, false, false, c)] :=
  Xl5 (fr := s.1) (to := to) (kd := kd) (id := id) (c := c) (a := a) (h := 64) (A := [Bd s.1 to kd id 64 0 false c]) hi (by omega) (Jy _ (fun e => by cases e))
 refine ⟨t, ?_, ?_, Sx q (a : Int) (s.1, to, kd, 64, id, 0, false, false, c) hv hvl hk hfr hto hkd hid hc hb (q + 4) ([], [], 0) _ t I t2⟩
 ·unfold F61 Xd7; (try dsimp only [A1])
  have p1 := Cz (q + 4) (s.1, to, kd, 64, id, 0, false, false, c)
  rw [ok] at p1
  have wl1 : IntKind.i64.wrap ((v.length : Int) - 1) = (v.length : Int) - 1 := i64_in _ (by omega)
  have i1 := Bm (q + 4) (a : Int) 0 (IntKind.i64.wrap ((v.length : Int) - 1))
  rw [wl1, Cn (show (0 : Int) ≤ (a : Int) ∧ (a : Int) ≤ (v.length : Int) - 1 by omega)] at i1
  rw [wl1]
  exact (bs hN).trans ((cf rfl).trans ((bs p1).trans ((cf rfl).trans ((bs i1).trans ((cf rfl).trans t1)))))
 ·unfold Xn8 Yb; (try dsimp only [A1])
  exact t2
theorem Xi2 (q : Nat) {v : Ks} (w p kd id : Int) {c : Bc} (hl : v.length ≤ 1048576) (hs : Gx v ≤ 1048576) (hb : BOk c) (hcl : c.length ≤ 1048576) (hk : 1048576 < q + 4) :
  ∃ r : Bc × Bool, F13 (q + 4) v w p kd id c = some r ∧ F16 (q + 4) v w p kd id c = some r ∧ (r = ([], false) ∨ r = (c, true)) ∧ r.1.length ≤ 48 := by
 obtain ⟨b, n1, n2, n3⟩ := Xvk q v hl hs hk
 have i1 := Bm (q + 4) w 0 (IntKind.i64.wrap ((v.length : Int) - 1))
 have i2 := C1 (q + 4) w 0 (IntKind.i64.wrap ((v.length : Int) - 1))
 have wl1 : IntKind.i64.wrap ((v.length : Int) - 1) = (v.length : Int) - 1 := i64_in _ (by omega)
 have w1 := Fh (q + 4) p
 have w2 := C1 (q + 4) kd 0 255
 have w3 := C1 (q + 4) id 0 255
 have no : ∀ x : Option (Bc × Bool), x = some ([], false) → x = some ([], false) := fun _ h => h
 unfold F13 Xl7 F16 Xjz; (try dsimp only [As])
 cases b with
 | false => exact ⟨_, (bs n1).trans ((ct rfl).trans rfl), (bs n2).trans ((ct rfl).trans rfl), .inl rfl, by simp⟩
 | true =>
  cases hw : inB w 0 (IntKind.i64.wrap ((v.length : Int) - 1)) with
  | false =>
   rw [hw] at i1 i2
   exact ⟨_, (bs n1).trans ((cf rfl).trans ((bs i1).trans ((ct rfl).trans rfl))), (bs n2).trans ((cf rfl).trans ((bs i2).trans ((ct rfl).trans rfl))), .inl rfl, by simp⟩
  | true =>
   rw [hw] at i1 i2
   rw [wl1] at hw
   have hw := A8 hw
   obtain ⟨a, rfl⟩ : ∃ i : Nat, w = (i : Int) := ⟨w.toNat, by omega⟩
   have ha : a < v.length := by omega
   have d1 : decide ((a : Int) < (v.length : Int)) = true := decide_eq_true (by omega)
   have d0 : decide ((0 : Int) ≤ (a : Int)) = true := decide_eq_true (by omega)
   by_cases hc : ¬ c.length ≤ 48
   ·have c1 : decide ((c.length : Int) > 48) = true := decide_eq_true (by omega)
    refine ⟨([], false), (bs n1).trans ((cf rfl).trans ((bs i1).trans ((cf rfl).trans ((ct c1).trans rfl)))), (bs n2).trans ((cf rfl).trans ((bs i2).trans ((cf rfl).trans ((bs w1).trans ?_)))), .inl rfl, by simp⟩
    cases inB p 0 65535; · rfl
    refine (cf rfl).trans ((bs w2).trans ?_)
    cases inB kd 0 255; · rfl
    refine (cf rfl).trans ((bs w3).trans ?_)
    cases inB id 0 255; · rfl
    exact (cf rfl).trans ((ct c1).trans rfl)
   ·replace hc := Decidable.not_not.1 hc
    have c1 : decide ((c.length : Int) > 48) = false := decide_eq_false (by omega)
    have hg := Ao v a ha
    obtain ⟨h1, h2⟩ := n3 rfl
    have sk := h1 _ (List.getElem_mem ha)
    have hfr := A8 sk.at1
    by_cases hok : inB p 0 65535 = true ∧ inB kd 0 255 = true ∧ inB id 0 255 = true
    ·obtain ⟨o1, o2, o3⟩ := hok
     rw [o1] at w1; rw [o2] at w2; rw [o3] at w3
     obtain ⟨t, t1, t2, t3⟩ := sent q (List.getElem?_eq_getElem ha) h1 h2 (A8 o1) (A8 o2) (A8 o3) hc hb hk n1
     have fin : ∃ r : Bc × Bool, Hu (q + 4) v (a : Int) p kd id c (q + 4) 0 t [] = some r ∧ Jl (q + 4) v (a : Int) p kd id c (q + 4) (t.1.length : Int) 0 t.1 [] = some r ∧ (r = ([], false) ∨ r = (c, true)) := by
      rcases t3 with e | ⟨h, hh, hC⟩
      ·refine ⟨([], false), ?_, ?_, .inl rfl⟩
       ·rw [Hu]
        unfold Hh; (try dsimp only [As, Bt])
        rw [e]
        exact (cf rfl).trans rfl
       ·rw [e, Jl]
        unfold Jw; (try dsimp only [As])
        exact (cf rfl).trans rfl
      ·have hlen := E7 _ hC
       have G : Gk v[a].1 p kd id h := ⟨hfr, A8 o1, A8 o2, A8 o3, hh⟩
       have := Xsy (q + 4) G v (a : Int) p kd id c t (by omega) hk (q + 4) [] t.1 [] c rfl ⟨rfl, rfl⟩ hC (by simpa using hc) (by omega)
       exact ⟨(c, true), this.1, this.2, .inr rfl⟩
     obtain ⟨r, r1, r2, r3⟩ := fin
     refine ⟨r, (bs n1).trans ((cf rfl).trans ((bs i1).trans ((cf rfl).trans ((cf c1).trans ((ct d0).trans ((ct d1).trans ?_)))))), (bs n2).trans ((cf rfl).trans ((bs i2).trans ((cf rfl).trans ((bs w1).trans ((cf rfl).trans ((bs w2).trans ((cf rfl).trans ((bs w3).trans ((cf rfl).trans ((cf c1).trans ((bs ?_).trans rfl))))))))))), r3, ?_⟩
     ·rw [hg]
      exact (bs t1).trans r1
     ·unfold F66 Xlq; (try dsimp only [As])
      rw [hg]
      exact (ct d0).trans ((ct d1).trans ((bs t2).trans r2))
     ·rcases r3 with rfl | rfl
      ·simp
      ·exact hc
    ·have po : Lr (v[a].1, p, kd, 64, id, 0, false, false, c) = false := by
      cases ho : Lr (v[a].1, p, kd, 64, id, 0, false, false, c) with
      | false => rfl
      | true =>
       obtain ⟨_, q1, q2, _, q4, _⟩ := Cy ho
       exact absurd ⟨Cn q1, Cn q2, Cn q4⟩ hok
     have p1 := Cz (q + 4) (v[a].1, p, kd, 64, id, 0, false, false, c)
     rw [po] at p1
     have tr : F61 (q + 4) v (a : Int) (v[a].1, p, kd, 64, id, 0, false, false, c) = some ([], [], 0) := by
      unfold F61 Xd7; (try dsimp only [A1])
      exact (bs n1).trans ((cf rfl).trans ((bs p1).trans ((ct rfl).trans rfl)))
     refine ⟨([], false), (bs n1).trans ((cf rfl).trans ((bs i1).trans ((cf rfl).trans ((cf c1).trans ((ct d0).trans ((ct d1).trans ?_)))))), (bs n2).trans ((cf rfl).trans ((bs i2).trans ((cf rfl).trans ((bs w1).trans ?_)))), .inl rfl, by simp⟩
     ·rw [hg]
      refine (bs tr).trans ?_
      rw [Hu]
      unfold Hh; (try dsimp only [As, Bt])
      exact (cf rfl).trans rfl
     ·cases o1 : inB p 0 65535; · rfl
      refine (cf rfl).trans ((bs w2).trans ?_)
      cases o2 : inB kd 0 255; · rfl
      refine (cf rfl).trans ((bs w3).trans ?_)
      cases o3 : inB id 0 255; · rfl
      exact absurd ⟨o1, o2, o3⟩ hok
end Go.Proofs.YtdmepjjepogddaaGreat.Gn
end

section
namespace Go.Proofs.YtdmepjjepogddaaGreat.Gn
open Go.Rf Go.IntWalk
set_option linter.unusedVariables false
set_option linter.unusedSimpArgs false
abbrev Wx : Type := List (den A5)
abbrev poL : Type := List (den A2)
def Er : Wx → Nat
 | [] => 0
 | m :: l => m.2.2.2.length + Er l
theorem Ka : ∀ {l : Wx} {s : den A5}, s ∈ l → s.2.2.2.length ≤ Er l
 | a :: l, s, h => by
  rcases List.mem_cons.1 h with rfl | h
  ·simp only [Er]; omega
  ·have := Ka h
   simp only [Er]; omega
def Fi : poL → Nat
 | [] => 0
 | p :: l => p.2.length + Er p.2 + Fi l
theorem Nz : ∀ {l : poL} {s : den A2}, s ∈ l → s.2.length + Er s.2 ≤ Fi l
 | a :: l, s, h => by
  rcases List.mem_cons.1 h with rfl | h
  ·simp only [Fi]; omega
  ·have := Nz h
   simp only [Fi]; omega
theorem Xpt (k : Nat) (m : den A5) (x : Int) (hl : m.2.2.2.length ≤ maxLen) (hx : 0 ≤ x ∧ x ≤ 1048576) : F35 k m x = some (if (m.2.2.2.length : Int) ≤ x then x - (m.2.2.2.length : Int) else -1) := by
 unfold F35; (try dsimp only)
 refine (bs (Yae k _ x hl hx)).trans ?_
 split
 ·exact (cf (decide_eq_false (by omega))).trans rfl
 ·exact (ct (by decide)).trans rfl
theorem Xs3 (k : Nat) (v : Wx) (w : Int) (hl : v.length ≤ 1048576) (hs : ∀ s ∈ v, s.2.2.2.length ≤ maxLen) : ∀ (n j : Nat) (x : Int), j ≤ v.length → v.length - j < n → 0 ≤ x ∧ x ≤ 1048576 → ∃ b, Ly k v w n x (j : Int) = some b ∧ (b < 0 ∨ (0 ≤ b ∧ b + (Er (v.drop j) : Int) = x))
 | 0, j, x, _, h, _ => by omega
 | n + 1, j, x, hj, h, hx => by
  rw [Ly]
  unfold Li; (try dsimp only [As])
  rcases Nat.lt_or_ge j v.length with hlt | hge
  ·have d1 : decide ((j : Int) < ((v.length : Nat) : Int)) = true := decide_eq_true (by omega)
   have d0 : decide ((0 : Int) ≤ ((j : Nat) : Int)) = true := decide_eq_true (by omega)
   rw [Ao v j hlt, D5 j (by omega), List.drop_eq_getElem_cons hlt]
   have hz := Xpt k v[j] x (hs _ (List.getElem_mem hlt)) hx
   by_cases c : (v[j].2.2.2.length : Int) ≤ x
   ·rw [if_pos c] at hz
    obtain ⟨b, hb, hb2⟩ := Xs3 k v w hl hs n (j + 1) (x - v[j].2.2.2.length) hlt (by omega) (by omega)
    refine ⟨b, (ct d1).trans ((ct d0).trans ((ct d1).trans ((bs hz).trans ((cf (decide_eq_false (by omega))).trans hb)))), ?_⟩
    simp only [Er]
    omega
   ·rw [if_neg c] at hz
    exact ⟨-1, (ct d1).trans ((ct d0).trans ((ct d1).trans ((bs hz).trans ((ct (by decide)).trans rfl)))), .inl (by decide)⟩
  ·have : j = v.length := by omega
   subst this
   rw [List.drop_length]
   exact ⟨x, (cf (decide_eq_false (by omega))).trans rfl, .inr ⟨hx.1, by simp [Er]⟩⟩
theorem Xzg (k : Nat) (v : Wx) (x : Int) (hx : 0 ≤ x ∧ x ≤ 1048576) (hl : v.length ≤ maxLen) (hs : ∀ s ∈ v, s.2.2.2.length ≤ maxLen) (hk : 1048576 < k) : ∃ b, Xfq k v x = some b ∧ (b < 0 ∨ (0 ≤ b ∧ b + (v.length : Int) + (Er v : Int) = x)) := by
 rw [ml] at hl
 unfold Xfq Z1; (try dsimp only)
 rw [i64_in _ (by omega)]
 by_cases c : x - (v.length : Int) < 0
 ·exact ⟨-1, (ct (decide_eq_true c)).trans rfl, .inl (by decide)⟩
 ·obtain ⟨b, hb, hb2⟩ := Xs3 k v x (by omega) hs k 0 (x - (v.length : Int)) (Nat.zero_le _) (by omega) (by omega)
  refine ⟨b, (cf (decide_eq_false c)).trans hb, ?_⟩
  rw [List.drop_zero] at hb2
  rcases hb2 with h | ⟨h1, h2⟩
  ·exact .inl h
  ·exact .inr ⟨h1, by omega⟩
theorem Yc1 (k : Nat) (p : den A2) (x : Int) (hx : 0 ≤ x ∧ x ≤ 1048576) (hl : p.2.length ≤ maxLen) (hs : ∀ s ∈ p.2, s.2.2.2.length ≤ maxLen) (hk : 1048576 < k) : ∃ b, F96 k p x = some b ∧ (b < 0 ∨ (0 ≤ b ∧ b + (p.2.length : Int) + (Er p.2 : Int) = x)) := by
 obtain ⟨b, h1, h2⟩ := Xzg k p.2 x hx hl hs hk
 unfold F96; (try dsimp only)
 by_cases c : b < 0
 ·exact ⟨-1, (bs h1).trans ((ct (decide_eq_true c)).trans rfl), .inl (by decide)⟩
 ·exact ⟨b, (bs h1).trans ((cf (decide_eq_false c)).trans rfl), h2⟩
theorem X4c (k : Nat) (v : poL) (w : Int) (hl : v.length ≤ 1048576) (hs : ∀ p ∈ v, p.2.length ≤ maxLen ∧ ∀ s ∈ p.2, s.2.2.2.length ≤ maxLen) (hk : 1048576 < k) : ∀ (n j : Nat) (x : Int), j ≤ v.length → v.length - j < n → 0 ≤ x ∧ x ≤ 1048576 → ∃ b, Qx k v w n x (j : Int) = some b ∧ (b < 0 ∨ (0 ≤ b ∧ b + (Fi (v.drop j) : Int) = x))
 | 0, j, x, _, h, _ => by omega
 | n + 1, j, x, hj, h, hx => by
  rw [Qx]
  unfold O0; (try dsimp only [As])
  rcases Nat.lt_or_ge j v.length with hlt | hge
  ·have d1 : decide ((j : Int) < ((v.length : Nat) : Int)) = true := decide_eq_true (by omega)
   have d0 : decide ((0 : Int) ≤ ((j : Nat) : Int)) = true := decide_eq_true (by omega)
   rw [Ao v j hlt, D5 j (by omega), List.drop_eq_getElem_cons hlt]
   obtain ⟨a1, a2⟩ := hs _ (List.getElem_mem hlt)
   obtain ⟨c, hz, hc⟩ := Yc1 k v[j] x hx a1 a2 hk
   by_cases c0 : c < 0
   ·exact ⟨-1, (ct d1).trans ((ct d0).trans ((ct d1).trans ((bs hz).trans ((ct (decide_eq_true c0)).trans rfl)))), .inl (by decide)⟩
   ·obtain ⟨b, hb, hb2⟩ := X4c k v w hl hs hk n (j + 1) c hlt (by omega) (by omega)
    refine ⟨b, (ct d1).trans ((ct d0).trans ((ct d1).trans ((bs hz).trans ((cf (decide_eq_false c0)).trans hb)))), ?_⟩
    simp only [Fi]
    omega
  ·have : j = v.length := by omega
   subst this
   rw [List.drop_length]
   exact ⟨x, (cf (decide_eq_false (by omega))).trans rfl, .inr ⟨hx.1, by simp [Fi]⟩⟩
theorem X7b (k : Nat) (v : poL) (hl : v.length ≤ maxLen) (hs : ∀ p ∈ v, p.2.length ≤ maxLen ∧ ∀ s ∈ p.2, s.2.2.2.length ≤ maxLen) (hk : 1048576 < k) : ∃ b, F34 k v 1048576 = some b ∧ (b < 0 ∨ (0 ≤ b ∧ b ≤ 1048576 ∧ v.length ≤ 1048576 ∧ Fi v ≤ 1048576)) := by
 rw [ml] at hl
 unfold F34 Xja; (try dsimp only)
 rw [i64_in _ (by omega)]
 by_cases c : 1048576 - (v.length : Int) < 0
 ·exact ⟨-1, (ct (decide_eq_true c)).trans rfl, .inl (by decide)⟩
 ·obtain ⟨b, hb, hb2⟩ := X4c k v 1048576 (by omega) hs hk k 0 (1048576 - (v.length : Int)) (Nat.zero_le _) (by omega) (by omega)
  refine ⟨b, (cf (decide_eq_false c)).trans hb, ?_⟩
  rw [List.drop_zero] at hb2
  rcases hb2 with h | ⟨h1, h2⟩
  ·exact .inl h
  ·exact .inr ⟨h1, by omega, by omega, by omega⟩
theorem Xra (k : Nat) (m : den A5) (hl : m.2.2.2.length ≤ 1048576) (hk : 1048576 < k) : F37 k m = some m := by
 unfold F37; (try dsimp only)
 exact (bs (Ygk k _ hl (by omega))).trans rfl
theorem X2p (k : Nat) (l : Wx) (hl : l.length ≤ 1048576) (hs : Er l ≤ 1048576) (hk : 1048576 < k) : Xep k l = some l := by
 have := Gt l id (fun n j m => Ih k l n j m) id
  (fun n j m h hm => by
   have hs1 := Ka (List.getElem_mem h)
   simp only [Ih, Hb, As]
   rw [Ao l j h, D5 j (by omega), Xra k _ (by omega) hk]
   simp only [Option.bind_some]
   rw [decide_eq_true (by omega : ((j : Nat) : Int) < (l.length : Nat)), decide_eq_true (by omega : (0 : Int) ≤ (j : Nat)), decide_eq_true (by omega : ((j : Nat) : Int) < (m.length : Nat))]
   rfl)
  (fun n m hm => by simp [Ih, Hb]) k 0 (List.replicate l.length (Bl A5)) (Nat.zero_le _) (by omega) (by simp) (by simp)
 simp only [List.map_id] at this
 simp only [Xep, Ys]
 rw [decide_eq_true (by omega : (0 : Int) ≤ ((l.length : Nat) : Int)), decide_eq_true (by omega : ((l.length : Nat) : Int) * (48 : Nat) ≤ 140737488355328)]
 simp only [decide_true, Bool.and_self, cond_true]
 exact this
theorem Ye0 (k : Nat) (p : den A2) (hl : p.2.length + Er p.2 ≤ 1048576) (hk : 1048576 < k) : F98 k p = some p := by
 unfold F98; (try dsimp only)
 exact (bs (X2p k p.2 (by omega) (by omega) hk)).trans rfl
theorem X8v (k : Nat) (l : poL) (hl : l.length ≤ 1048576) (hs : Fi l ≤ 1048576) (hk : 1048576 < k) : F36 k l = some l := by
 have := Gt l id (fun n j m => Mk k l n j m) id
  (fun n j m h hm => by
   have hs1 := Nz (List.getElem_mem h)
   simp only [Mk, Jq, As]
   rw [Ao l j h, D5 j (by omega), Ye0 k _ (by omega) hk]
   simp only [Option.bind_some]
   rw [decide_eq_true (by omega : ((j : Nat) : Int) < (l.length : Nat)), decide_eq_true (by omega : (0 : Int) ≤ (j : Nat)), decide_eq_true (by omega : ((j : Nat) : Int) < (m.length : Nat))]
   rfl)
  (fun n m hm => by simp [Mk, Jq]) k 0 (List.replicate l.length (Bl A2)) (Nat.zero_le _) (by omega) (by simp) (by simp)
 simp only [List.map_id] at this
 simp only [F36, Xk5]
 rw [decide_eq_true (by omega : (0 : Int) ≤ ((l.length : Nat) : Int)), decide_eq_true (by omega : ((l.length : Nat) : Int) * (32 : Nat) ≤ 140737488355328)]
 simp only [decide_true, Bool.and_self, cond_true]
 exact this
theorem Xd1 (k : Nat) (p : den A5) (hl : p.2.2.2.length ≤ 1048576) (hk : 1048576 < k) : F39 k p p = some true := by
 unfold F39 Xkd; (try dsimp only)
 simp only [bne_self_eq_false, cond_false, Bool.not_true, Xpu k _ (show p.2.2.2.length ≤ 4194304 by omega) (by omega), Option.bind_some]
theorem Xm8 (k : Nat) (l : Wx) (hl : l.length ≤ 1048576) (hk : 1048576 < k) (hs : Er l ≤ 1048576) : Xor k l l = some true := by
 have := Gz l (fun n (_ : Unit) j => Hv k l l n j) (fun s _ => s) (fun _ => true)
  (fun n s j h => by
   have hs1 := Ka (List.getElem_mem h)
   simp only [Hv, Gp, As]
   rw [Ao l j h, D5 j (by omega), Xd1 k _ (by omega) hk]
   simp [h])
  (fun n s => by simp [Hv, Gp]) k () 0 (Nat.zero_le _) (by omega)
 simp only [Xor, Xaq, bne_self_eq_false, cond_false]
 exact this
theorem Xu5 (k : Nat) (p : den A2) (hl : p.2.length + Er p.2 ≤ 1048576) (hk : 1048576 < k) : F99 k p p = some true := by
 unfold F99 Xjk; (try dsimp only)
 simp only [bne_self_eq_false, cond_false, Xm8 k p.2 (by omega) hk (by omega), Option.bind_some, Bool.not_true]
theorem Xds (k : Nat) (l : poL) (hl : l.length ≤ 1048576) (hs : Fi l ≤ 1048576) (hk : 1048576 < k) : F38 k l l = some true := by
 have := Gz l (fun n (_ : Unit) j => Ml k l l n j) (fun s _ => s) (fun _ => true)
  (fun n s j h => by
   have hs1 := Nz (List.getElem_mem h)
   simp only [Ml, Kc, As]
   rw [Ao l j h, D5 j (by omega), Xu5 k _ (by omega) hk]
   simp [h])
  (fun n s => by simp [Ml, Kc]) k () 0 (Nat.zero_le _) (by omega)
 simp only [F38, Xl6, bne_self_eq_false, cond_false]
 exact this
def wM (p : den A5) : Int := 3 + (p.2.2.2.length : Int)
theorem Px (p : den A5) : 0 ≤ wM p := by unfold wM; omega
def gM (y : Int) (p : den A5) : den A5 := (y, y + 1, y + 2, Bv gB (fun _ => 1) (y + 3) p.2.2.2)
theorem Xlg (y : Int) (p : den A5) : wM (gM y p) = wM p := by simp [wM, gM, Hd]
theorem Yjz (l : Wx) : A7 wM l = 3 * (l.length : Int) + (Er l : Int) := by
 induction l with
 | nil => rfl
 | cons a l ih => simp only [A7, Er, wM, ih, List.length_cons]; omega
theorem Xn2 (k : Nat) (a0 : Wx) (a1 : Int) (n : Nat) (y : Int) (j : Nat) (m : Wx) (h : j < m.length) (hm : m.length ≤ 1048576) (h0 : 0 ≤ y) (hB : y + wM m[j] ≤ 1099511627776) (hs : m[j].2.2.2.length ≤ 1048576) (hk : 1048576 < k) :
  Ep k a0 a1 (n + 1) y (j : Int) m = Ep k a0 a1 n (y + wM m[j]) ((j + 1 : Nat) : Int) (m.set j (gM y m[j])) := by
 rw [Ep]
 unfold Gy; (try dsimp only [As])
 rw [Ao m j h, D5 j (by omega)]
 generalize m[j] = s at *
 obtain ⟨s0, s1, s2, s3⟩ := s
 simp only [wM] at hB
 simp only at hs
 have d1 : decide ((j : Int) < ((m.length : Nat) : Int)) = true := decide_eq_true (by omega)
 have d0 : decide ((0 : Int) ≤ ((j : Nat) : Int)) = true := decide_eq_true (by omega)
 have w0 : IntKind.i64.wrap (y + 1) = y + 1 := by rw [i64_in _ (by omega)]
 have w1 : IntKind.i64.wrap (y + 1 + 1) = y + 2 := by rw [i64_in _ (by omega)]; omega
 have w2 : IntKind.i64.wrap (y + 2 + 1) = y + 3 := by rw [i64_in _ (by omega)]; omega
 have m1 := Xst k s3 (y + 3) (by omega) (by omega) (by omega)
 simp only [Int.toNat_natCast, List.set_set, S2 h, List.length_set, d0, d1, cond_true, sto, Option.bind_some, w0, w1, w2, m1]
 unfold wM gM
 have e : y + (3 + (s3.length : Int)) = y + 3 + (s3.length : Int) := by omega
 simp only [e]
theorem X17 (k : Nat) (l : Wx) (x : Int) (hl : l.length ≤ 1048576) (hs : Er l ≤ 1048576) (hk : 1048576 < k) (h0 : 0 ≤ x) (hB : x + A7 wM l ≤ 1099511627776) :
  Xpc k l x = some (x + A7 wM l, Bv gM wM x l) := by
 simp only [Xpc, Xbn]
 have main : ∀ (n : Nat) (y : Int) (d r : Wx), d.length + r.length = l.length → r.length < n → (∀ s ∈ r, s.2.2.2.length ≤ 1048576) → 0 ≤ y → y + A7 wM r ≤ 1099511627776 →
   Ep k l x n y (d.length : Nat) (d ++ r) = some (y + A7 wM r, d ++ Bv gM wM y r) := by
  intro n
  induction n with
  | zero => intro y d r _ h; omega
  | succ n ih =>
   intro y d r hN2 hn hr h0 hB
   cases r with
   | nil => simp [Ep, Gy, A7, Bv]
   | cons a r =>
    simp only [A7] at hB
    have ha := Px a
    have hr2 := Bp Px r
    have hj : d.length < (d ++ a :: r).length := by simp
    have hget : (d ++ a :: r)[d.length] = a := by simp
    rw [Xn2 k l x n y d.length (d ++ a :: r) hj (by simp at hN2 ⊢; omega) h0 (by rw [hget]; omega) (by rw [hget]; exact hr a (by simp)) hk, hget]
    have := ih (y + wM a) (d ++ [gM y a]) r (by simp at hN2 ⊢; omega) (by simp at hn; omega) (fun s hs => hr s (by simp [hs])) (by omega) (by omega)
    simp only [List.length_append, List.length_singleton, List.append_assoc, List.singleton_append] at this
    rw [show (d ++ a :: r).set d.length (gM y a) = d ++ gM y a :: r by simp, this]
    simp [A7, Bv, Int.add_assoc]
 have := main k x [] l (by simp) (by omega) (fun s h => by have := Ka h; omega) h0 hB
 simpa using this
def Xhi (y : Int) (s : den A5) : Prop := ∃ b : den A5, s = gM y b ∧ b.2.2.2.length ≤ 1048576
theorem Xom (k : Nat) (l : Wx) (x : Int) (n : Nat) (y : Int) (j : Nat) (h : j < l.length) (hl : l.length ≤ 1048576) (ht : Xhi y l[j]) (h0 : 0 ≤ y) (hB : y + wM l[j] ≤ 1099511627776) (hk : 1048576 < k) :
  Eo k l x (n + 1) y (j : Int) = Eo k l x n (y + wM l[j]) ((j + 1 : Nat) : Int) := by
 rw [Eo]
 unfold G0; (try dsimp only [As])
 rw [Ao l j h, D5 j (by omega)]
 obtain ⟨b, hb, hs⟩ := ht
 generalize l[j] = s at *
 subst hb
 obtain ⟨s0, s1, s2, s3⟩ := b
 rw [Xlg] at hB ⊢
 simp only [wM] at hB
 simp only at hs
 have d1 : decide ((j : Int) < ((l.length : Nat) : Int)) = true := decide_eq_true (by omega)
 have d0 : decide ((0 : Int) ≤ ((j : Nat) : Int)) = true := decide_eq_true (by omega)
 have w0 : IntKind.i64.wrap (y + 1) = y + 1 := by rw [i64_in _ (by omega)]
 have w1 : IntKind.i64.wrap (y + 1 + 1) = y + 2 := by rw [i64_in _ (by omega)]; omega
 have w2 : IntKind.i64.wrap (y + 2 + 1) = y + 3 := by rw [i64_in _ (by omega)]; omega
 have m1 := X9g k s3 (y + 3) (by omega) (by omega) (by omega)
 have c9 : decide (y + 3 + (s3.length : Int) < 0) = false := decide_eq_false (by omega)
 simp only [gM, d0, d1, cond_true, cond_false, Option.bind_some, w0, w1, w2, bne_self_eq_false, m1, c9]
 unfold wM
 have e : y + (3 + (s3.length : Int)) = y + 3 + (s3.length : Int) := by omega
 simp only [e]
theorem X0l (k : Nat) (l : Wx) (x : Int) (hl : l.length ≤ 1048576) (hs : Er l ≤ 1048576) (hk : 1048576 < k) (h0 : 0 ≤ x) (hB : x + A7 wM l ≤ 1099511627776) :
  Xo0 k (Bv gM wM x l) x = some (x + A7 wM l) := by
 have hlen := Hd gM wM x l
 have hsum := Fm (g := gM) (s := wM) Xlg x l
 have hh := Qo (t := Xhi) (g := gM) (s := wM) Xlg x l (fun y a ha => ⟨a, rfl, by have := Ka ha; omega⟩)
 generalize Bv gM wM x l = m at hlen hsum hh
 have := Om 1099511627776 m (fun n y j => Eo k m x n y j) Xhi wM (fun x => x) Px
  (fun n y j h ht h0 hB => Xom k m x n y j h (by omega) ht h0 hB hk)
  (fun n y => by simp [Eo, G0]) k x 0 (Nat.zero_le _) (by omega) h0 (by rw [List.drop_zero, hsum]; exact hB) (by rw [List.drop_zero]; exact hh)
 rw [List.drop_zero, hsum] at this
 simp only [Xo0, Z8]
 exact this
def wO (s : den A2) : Int := 1 + A7 wM s.2
theorem S7 (s : den A2) : 0 ≤ wO s := by
 have := Bp Px s.2
 unfold wO; omega
def gO (y : Int) (s : den A2) : den A2 := (y, Bv gM wM (y + 1) s.2)
theorem Xu8 (y : Int) (p : den A2) : wO (gO y p) = wO p := by simp [wO, gO, Fm (g := gM) (s := wM) Xlg]
theorem X4i (l : poL) : A7 wO l ≤ (l.length : Int) + 3 * (Fi l : Int) := by
 induction l with
 | nil => simp [A7, Fi]
 | cons a l ih =>
  have := Yjz a.2
  simp only [A7, Fi, wO, List.length_cons]; omega
theorem Xwp (k : Nat) (l : poL) (x : Int) (hl : l.length ≤ 1048576) (hs : Fi l ≤ 1048576) (hk : 1048576 < k) (h0 : 0 ≤ x) (hB : x + A7 wO l ≤ 1099511627776) :
  F40 k l x = some (x + A7 wO l, Bv gO wO x l) := by
 simp only [F40, Xjp]
 have main : ∀ (n : Nat) (y : Int) (d r : poL), d.length + r.length = l.length → r.length < n → Fi r ≤ 1048576 → 0 ≤ y → y + A7 wO r ≤ 1099511627776 →
   Mm k l x n y (d.length : Nat) (d ++ r) = some (y + A7 wO r, d ++ Bv gO wO y r) := by
  intro n
  induction n with
  | zero => intro y d r _ h; omega
  | succ n ih =>
   intro y d r hN2 hn hr h0 hB
   cases r with
   | nil => simp [Mm, J7, A7, Bv]
   | cons a r =>
    simp only [A7] at hB
    simp only [Fi] at hr
    have ha := S7 a
    have ha2 := Bp Px a.2
    have hr2 := Bp S7 r
    have h : d.length < (d ++ a :: r).length := by simp
    have d1 : decide (((d.length : Nat) : Int) < (((d ++ a :: r).length : Nat) : Int)) = true := decide_eq_true (by omega)
    have d0 : decide ((0 : Int) ≤ ((d.length : Nat) : Int)) = true := decide_eq_true (by omega)
    have hw : wO a = 1 + A7 wM a.2 := rfl
    have w0 : IntKind.i64.wrap (y + 1) = y + 1 := by rw [i64_in _ (by omega)]
    have hg : (d ++ a :: r)[d.length] = a := by simp
    have m1 := X17 k a.2 (y + 1) (by omega) (by omega) hk (by omega) (by omega)
    have := ih (y + wO a) (d ++ [gO y a]) r (by simp at hN2 ⊢; omega) (by simp at hn; omega) (by omega) (by omega) (by omega)
    simp only [List.length_append, List.length_singleton, List.append_assoc, List.singleton_append] at this
    have hset : (d ++ a :: r).set d.length (gO y a) = d ++ gO y a :: r := by simp
    have e1 : y + 1 + A7 wM a.2 = y + wO a := by omega
    simp only [Mm, J7, As]
    rw [Ao (d ++ a :: r) d.length h, hg, D5 d.length (by simp at hN2; omega)]
    simp only [Int.toNat_natCast, List.set_set, S2 h, List.length_set, d0, d1, cond_true, w0, m1, Option.bind_some]
    rw [show (d ++ a :: r).set d.length (y, Bv gM wM (y + 1) a.2) = d ++ gO y a :: r from hset, e1, this]
    simp [A7, Bv, Int.add_assoc]
 have := main k x [] l (by simp) (by omega) hs h0 hB
 simpa using this
def Xeb (y : Int) (s : den A2) : Prop := ∃ b : den A2, s = gO y b ∧ b.2.length + Er b.2 ≤ 1048576
theorem Xvp (k : Nat) (l : poL) (x : Int) (n : Nat) (y : Int) (j : Nat) (h : j < l.length) (hl : l.length ≤ 1048576) (ht : Xeb y l[j]) (h0 : 0 ≤ y) (hB : y + wO l[j] ≤ 1099511627776) (hk : 1048576 < k) :
  Hy k l x (n + 1) y (j : Int) = Hy k l x n (y + wO l[j]) ((j + 1 : Nat) : Int) := by
 rw [Hy]
 unfold Jh; (try dsimp only [As])
 rw [Ao l j h, D5 j (by omega)]
 obtain ⟨b, hb, hs⟩ := ht
 generalize l[j] = s at *
 subst hb
 obtain ⟨s0, s1⟩ := b
 rw [Xu8] at hB ⊢
 have ha2 := Bp Px s1
 simp only [wO] at hB
 simp only at hs
 have d1 : decide ((j : Int) < ((l.length : Nat) : Int)) = true := decide_eq_true (by omega)
 have d0 : decide ((0 : Int) ≤ ((j : Nat) : Int)) = true := decide_eq_true (by omega)
 have w0 : IntKind.i64.wrap (y + 1) = y + 1 := by rw [i64_in _ (by omega)]
 have m1 := X0l k s1 (y + 1) (by omega) (by omega) hk (by omega) (by omega)
 have c9 : decide (y + 1 + A7 wM s1 < 0) = false := decide_eq_false (by omega)
 simp only [gO, d0, d1, cond_true, cond_false, Option.bind_some, w0, bne_self_eq_false, m1, c9]
 unfold wO
 have e : y + (1 + A7 wM s1) = y + 1 + A7 wM s1 := by omega
 simp only [e]
theorem Ydx (k : Nat) (l : poL) (x : Int) (hl : l.length ≤ 1048576) (hs : Fi l ≤ 1048576) (hk : 1048576 < k) (h0 : 0 ≤ x) (hB : x + A7 wO l ≤ 1099511627776) :
  F42 k (Bv gO wO x l) x = some (x + A7 wO l) := by
 have hlen := Hd gO wO x l
 have hsum := Fm (g := gO) (s := wO) Xu8 x l
 have hh := Qo (t := Xeb) (g := gO) (s := wO) Xu8 x l (fun y a ha => ⟨a, rfl, by have := Nz ha; omega⟩)
 generalize Bv gO wO x l = m at hlen hsum hh
 have := Om 1099511627776 m (fun n y j => Hy k m x n y j) Xeb wO (fun x => x) S7
  (fun n y j h ht h0 hB => Xvp k m x n y j h (by omega) ht h0 hB hk)
  (fun n y => by simp [Hy, Jh]) k x 0 (Nat.zero_le _) (by omega) h0 (by rw [List.drop_zero, hsum]; exact hB) (by rw [List.drop_zero]; exact hh)
 rw [List.drop_zero, hsum] at this
 simp only [F42, Xlr]
 exact this
end Go.Proofs.YtdmepjjepogddaaGreat.Gn
end

section
namespace Go.Proofs.YtdmepjjepogddaaGreat.Gn
open Go.Rf Go.IntWalk
set_option linter.unusedVariables false
set_option linter.unusedSimpArgs false
theorem bt {α β : Type} {o o' : Option α} {f : α → Option β} {x : Option β} (h : o = o') (h2 : o'.bind f = x) : o.bind f = x := by rw [h]; exact h2
def Vy (m : den A5) : Bool := inB m.1 0 65535 && inB m.2.1 1 255 && inB m.2.2.1 1 255 && decide ((m.2.2.2.length : Int) ≤ 40)
theorem Ya (k : Nat) (m : den A5) : Xdu k m = some (Vy m) := by
 obtain ⟨v0, v1, v2, v3⟩ := m
 unfold Xdu Xbk Vy; (try dsimp only)
 try dsimp only
 refine (bs (Bm k v0 0 65535)).trans ?_
 cases inB v0 0 65535; · rfl
 refine (ct rfl).trans ((bs (Bm k v1 1 255)).trans ?_)
 cases inB v1 1 255; · rfl
 refine (ct rfl).trans ((bs (Bm k v2 1 255)).trans ?_)
 cases inB v2 1 255 <;> rfl
theorem Xiw (k : Nat) (m : den A5) : F79 k m = some (Vy m) := by
 obtain ⟨v0, v1, v2, v3⟩ := m
 unfold F79 Xjv Vy; (try dsimp only)
 try dsimp only
 refine (bs (Fh k v0)).trans ?_
 cases inB v0 0 65535; · rfl
 refine (ct rfl).trans ((bs (Xea k v1)).trans ?_)
 cases inB v1 1 255; · rfl
 refine (ct rfl).trans ((bs (Xea k v2)).trans ?_)
 cases inB v2 1 255 <;> rfl
theorem D4 {m : den A5} (h : Vy m = true) : (0 ≤ m.1 ∧ m.1 ≤ 65535) ∧ (1 ≤ m.2.1 ∧ m.2.1 ≤ 255) ∧ (1 ≤ m.2.2.1 ∧ m.2.2.1 ≤ 255) ∧ m.2.2.2.length ≤ 40 := by
 unfold Vy at h
 simp only [Bool.and_eq_true, decide_eq_true_eq] at h
 exact ⟨A8 h.1.1.1, A8 h.1.1.2, A8 h.1.2, by omega⟩
def L0 (n : Int) (m : den A5) : Bool := Vy m && @BEq.beq Int _ m.2.2.1 n
def okO (p : den A2) : Bool := inB p.1 1 255 && decide (p.2.length ≤ 3) && p.2.all (L0 p.1)
theorem Ydt (k : Nat) (m : den A5) (p : den A2) : F87 k m p = some (!(L0 p.1 m), p) := by
 unfold F87 L0; (try dsimp only)
 refine (bs (Xiw k m)).trans ?_
 cases Vy m <;> rfl
theorem Xwh (k : Nat) (r : Wx) (wx p : den A2) (hl : r.length ≤ 1000) : ∀ (n j : Nat), j ≤ r.length → r.length - j < n → ∃ x : Int, Kr k r wx n (j : Int) p = some (x, p) ∧ decide (x ≥ 0) = !(r.drop j).all (L0 p.1)
 | 0, j, _, h => by omega
 | n + 1, j, hj, h => by
  rw [Kr]
  unfold Lk; (try dsimp only [As])
  rcases Nat.lt_or_ge j r.length with hlt | hge
  ·have d1 : decide ((j : Int) < ((r.length : Nat) : Int)) = true := decide_eq_true (by omega)
   have d0 : decide ((0 : Int) ≤ ((j : Nat) : Int)) = true := decide_eq_true (by omega)
   obtain ⟨x, h1, h2⟩ := Xwh k r wx p hl n (j + 1) hlt (by omega)
   have e := Ydt k r[j] p
   rw [Ao r j hlt, D5 j (by omega), List.drop_eq_getElem_cons hlt]
   cases hh : L0 p.1 r[j] with
   | true =>
    rw [hh] at e
    exact ⟨x, (ct d1).trans ((ct d0).trans ((ct d1).trans ((bs e).trans ((cf rfl).trans h1)))), by rw [List.all_cons, hh]; exact h2⟩
   | false =>
    rw [hh] at e
    exact ⟨j, (ct d1).trans ((ct d0).trans ((ct d1).trans ((bs e).trans ((ct rfl).trans rfl)))), by rw [List.all_cons, hh]; exact decide_eq_true (by omega)⟩
  ·have : j = r.length := by omega
   subst this
   rw [List.drop_length]
   exact ⟨-1, (cf (decide_eq_false (by omega))).trans rfl, rfl⟩
theorem Yfp (k : Nat) (r : Wx) (p : den A2) (hl : r.length ≤ 1000) (hk : 1048576 < k) : F86 k r p = some (!r.all (L0 p.1), p) := by
 obtain ⟨x, h1, h2⟩ := Xwh k r p p hl k 0 (Nat.zero_le _) (by omega)
 rw [List.drop_zero] at h2
 unfold F86; (try dsimp only)
 refine (bs h1).trans ?_
 show some (decide (x ≥ 0), p) = _
 rw [h2]
theorem Xri (k : Nat) (v : poL) (i : Nat) (hi : i < v.length) (hr : v[i].2.length ≤ 1000) (G : Int → Option Bool) : ∀ (n j : Nat), j ≤ v[i].2.length → v[i].2.length - j < n →
  (Jr k v n (i : Int) (j : Int)).bind (fun z2 => Ix (fun y2 => some false) (Ix (fun y2 => some false) (fun y2 => G (IntKind.i64.wrap (y2.1 + 1)))) z2) = cond ((v[i].2.drop j).all (L0 v[i].1)) (G (IntKind.i64.wrap ((i : Int) + 1))) (some false)
 | 0, j, _, h => by omega
 | n + 1, j, hj, h => by
  rw [Jr]
  unfold Nv; (try dsimp only [As])
  have i1 : decide ((i : Int) < ((v.length : Nat) : Int)) = true := decide_eq_true (by omega)
  have i0 : decide ((0 : Int) ≤ ((i : Nat) : Int)) = true := decide_eq_true (by omega)
  rw [Ao v i hi]
  rcases Nat.lt_or_ge j v[i].2.length with hlt | hge
  ·have d1 : decide ((j : Int) < ((v[i].2.length : Nat) : Int)) = true := decide_eq_true (by omega)
   have d0 : decide ((0 : Int) ≤ ((j : Nat) : Int)) = true := decide_eq_true (by omega)
   have ih := Xri k v i hi hr G n (j + 1) hlt (by omega)
   have e := Ya k v[i].2[j]
   rw [Ao v[i].2 j hlt, D5 j (by omega), List.drop_eq_getElem_cons hlt, List.all_cons]
   cases ho : Vy v[i].2[j] with
   | false =>
    rw [ho] at e
    refine bt ((ct i0).trans ((ct i1).trans ((ct d1).trans ((ct i0).trans ((ct i1).trans ((ct d0).trans ((ct d1).trans ((bs e).trans (ct rfl))))))))) ?_
    unfold L0
    rw [ho]
    rfl
   | true =>
    rw [ho] at e
    cases hq : @BEq.beq Int _ v[i].2[j].2.2.1 v[i].1 with
    | false =>
     have q : (v[i].2[j].2.2.1 != v[i].1) = true := by show (!(@BEq.beq Int _ v[i].2[j].2.2.1 v[i].1)) = true; rw [hq]; rfl
     refine bt ((ct i0).trans ((ct i1).trans ((ct d1).trans ((ct i0).trans ((ct i1).trans ((ct d0).trans ((ct d1).trans ((bs e).trans ((cf rfl).trans ((ct i0).trans ((ct i1).trans ((ct d0).trans ((ct d1).trans ((ct i0).trans ((ct i1).trans (ct q)))))))))))))))) ?_
     rw [show L0 v[i].1 v[i].2[j] = false by unfold L0; rw [ho, hq]; rfl]
     rfl
    | true =>
     have q : (v[i].2[j].2.2.1 != v[i].1) = false := by show (!(@BEq.beq Int _ v[i].2[j].2.2.1 v[i].1)) = false; rw [hq]; rfl
     refine bt ((ct i0).trans ((ct i1).trans ((ct d1).trans ((ct i0).trans ((ct i1).trans ((ct d0).trans ((ct d1).trans ((bs e).trans ((cf rfl).trans ((ct i0).trans ((ct i1).trans ((ct d0).trans ((ct d1).trans ((ct i0).trans ((ct i1).trans (cf q)))))))))))))))) ?_
     rw [show L0 v[i].1 v[i].2[j] = true by unfold L0; rw [ho, hq]; rfl, Bool.true_and]
     exact ih
  ·have : j = v[i].2.length := by omega
   subst this
   rw [List.drop_length]
   refine bt ((ct i0).trans ((ct i1).trans (cf (decide_eq_false (by omega))))) ?_
   rfl
def spT (k : Nat) (v : poL) (n : Nat) (j : Int) : Option Bool := cond (decide (((Ac v j).2.length : Int) > 3)) (some false) ((Jr k v k j 0).bind fun z2 => Ix (fun y2 => some false) (Ix (fun y2 => some false) (fun y2 => H8 k v n (IntKind.i64.wrap (y2.1 + 1)))) z2)
theorem ps_l (k : Nat) (v : poL) (hl : v.length ≤ 1048576) (hk : 1048576 < k) : ∀ (n j : Nat), j ≤ v.length → v.length - j < n → ∃ b, H8 k v n (j : Int) = some b ∧ Mo k v n (j : Int) = some b ∧
  (b = true → (∀ p ∈ v.drop j, okO p = true) ∧ (∀ (i : Nat) (h : i < v.length), j ≤ i → 0 < i → @LT.lt Int _ (v[i - 1]'(by omega)).1 v[i].1) ∧ v.length ≤ 4)
 | 0, j, _, h => by omega
 | n + 1, j, hj, h => by
  rw [H8, Mo]
  unfold O5; (try dsimp only [As])
  rcases Nat.lt_or_ge j v.length with hlt | hge
  ·have d1 : decide ((j : Int) < ((v.length : Nat) : Int)) = true := decide_eq_true (by omega)
   have d0 : decide ((0 : Int) ≤ ((j : Nat) : Int)) = true := decide_eq_true (by omega)
   obtain ⟨b, hb1, hb2, hb3⟩ := ps_l k v hl hk n (j + 1) hlt (by omega)
   have hg := Ao v j hlt
   have i1 := Bm k v[j].1 1 255
   have i2 := Xea k v[j].1
   cases hin : inB v[j].1 1 255 with
   | false =>
    rw [hin] at i1 i2
    rw [hg]
    exact ⟨false, (ct d1).trans ((ct d0).trans ((ct d1).trans ((bs i1).trans ((ct rfl).trans rfl)))), (ct d1).trans ((ct d0).trans ((ct d1).trans ((bs i2).trans ((ct rfl).trans rfl)))), fun h => by cases h⟩
   | true =>
    rw [hin] at i1 i2
    obtain ⟨c, t1, t2, t3⟩ : ∃ c, spT k v n (j : Int) = some c ∧ Hi k v (Mo k v n) some (j : Int) = some c ∧ (c = true → okO v[j] = true ∧ b = true) := by
     unfold spT Hi; (try dsimp only)
     rw [hg]
     by_cases c3 : (v[j].2.length : Int) > 3
     ·exact ⟨false, (ct (decide_eq_true c3)).trans rfl, (ct (decide_eq_true c3)).trans rfl, fun h => by cases h⟩
     ·have r1 := Xri k v j hlt (by omega) (H8 k v n) k 0 (Nat.zero_le _) (by omega)
      have r2 := Yfp k v[j].2 v[j] (by omega) hk
      rw [List.drop_zero] at r1
      cases ha : v[j].2.all (L0 v[j].1) with
      | false =>
       rw [ha] at r1 r2
       exact ⟨false, (cf (decide_eq_false c3)).trans r1, (cf (decide_eq_false c3)).trans ((bs r2).trans ((ct rfl).trans rfl)), fun h => by cases h⟩
      | true =>
       rw [ha] at r1 r2
       rw [D5 j (by omega)] at r1 ⊢
       refine ⟨b, (cf (decide_eq_false c3)).trans (r1.trans hb1), (cf (decide_eq_false c3)).trans ((bs r2).trans ((cf rfl).trans hb2)), fun h => ⟨?_, h⟩⟩
       unfold okO
       rw [hin, ha, decide_eq_true (by omega)]
       rfl
    have fin : c = true → (0 < j → @LT.lt Int _ (v[j - 1]'(by omega)).1 v[j].1) → (∀ p ∈ v.drop j, okO p = true) ∧ (∀ (i : Nat) (h : i < v.length), j ≤ i → 0 < i → @LT.lt Int _ (v[i - 1]'(by omega)).1 v[i].1) ∧ v.length ≤ 4 := fun hc hlt0 => by
     obtain ⟨o1, o2⟩ := t3 hc
     obtain ⟨p1, p2, p3⟩ := hb3 o2
     refine ⟨fun p hp => ?_, fun i h hji h0 => ?_, p3⟩
     ·rw [List.drop_eq_getElem_cons hlt] at hp
      rcases List.mem_cons.1 hp with rfl | hp
      ·exact o1
      ·exact p1 p hp
     ·rcases Nat.lt_or_ge j i with q | q
      ·exact p2 i h q h0
      ·obtain rfl : i = j := by omega
       exact hlt0 h0
    rcases Nat.eq_zero_or_pos j with h0 | h0
    ·have g0 : decide ((j : Int) > 0) = false := decide_eq_false (by omega)
     rw [hg]
     refine ⟨c, (ct d1).trans ((ct d0).trans ((ct d1).trans ((bs i1).trans ((cf rfl).trans ((cf g0).trans ((ct d0).trans ((ct d1).trans ?_))))))), (ct d1).trans ((ct d0).trans ((ct d1).trans ((bs i2).trans ((cf rfl).trans ((cf g0).trans t2))))), fun hc => fin hc (fun h => by omega)⟩
     unfold spT at t1
     rw [hg] at t1
     exact t1
    ·have g0 : decide ((j : Int) > 0) = true := decide_eq_true (by omega)
     have e1 : IntKind.i64.wrap ((j : Int) - 1) = ((j - 1 : Nat) : Int) := by rw [i64_in _ (by omega)]; omega
     have q1 : decide (((j - 1 : Nat) : Int) < ((v.length : Nat) : Int)) = true := decide_eq_true (by omega)
     have q0 : decide ((0 : Int) ≤ ((j - 1 : Nat) : Int)) = true := decide_eq_true (by omega)
     rw [e1, Ao v (j - 1) (by omega), hg]
     unfold spT at t1
     rw [hg] at t1
     by_cases cc : @GE.ge Int _ v[j - 1].1 v[j].1
     ·exact ⟨false, (ct d1).trans ((ct d0).trans ((ct d1).trans ((bs i1).trans ((cf rfl).trans ((ct g0).trans ((ct q0).trans ((ct q1).trans ((ct d0).trans ((ct d1).trans ((ct (decide_eq_true cc)).trans rfl)))))))))),
       (ct d1).trans ((ct d0).trans ((ct d1).trans ((bs i2).trans ((cf rfl).trans ((ct g0).trans ((ct q0).trans ((ct q1).trans ((ct (decide_eq_true cc)).trans rfl)))))))), fun h => by cases h⟩
     ·exact ⟨c, (ct d1).trans ((ct d0).trans ((ct d1).trans ((bs i1).trans ((cf rfl).trans ((ct g0).trans ((ct q0).trans ((ct q1).trans ((ct d0).trans ((ct d1).trans ((cf (decide_eq_false cc)).trans ((ct d0).trans ((ct d1).trans t1)))))))))))),
       (ct d1).trans ((ct d0).trans ((ct d1).trans ((bs i2).trans ((cf rfl).trans ((ct g0).trans ((ct q0).trans ((ct q1).trans ((cf (decide_eq_false cc)).trans t2)))))))), fun hc => fin hc (fun _ => Int.not_le.1 cc)⟩
  ·have : j = v.length := by omega
   subst this
   rw [List.drop_length]
   have d1 : decide (((v.length : Nat) : Int) < ((v.length : Nat) : Int)) = false := decide_eq_false (by omega)
   exact ⟨decide (((v.length : Nat) : Int) ≤ 4), (cf d1).trans rfl, (cf d1).trans rfl, fun h => ⟨fun r hr => (by cases hr), fun i h h2 => (by omega), by have := of_decide_eq_true h; omega⟩⟩
structure POK (v : poL) : Prop where
 ok : ∀ p ∈ v, okO p = true
 lt : ∀ (i : Nat) (h : i < v.length), 0 < i → @LT.lt Int _ (v[i - 1]'(by omega)).1 v[i].1
 len : v.length ≤ 4
theorem Ykg (k : Nat) (v : poL) (hl : v.length ≤ 1048576) (hk : 1048576 < k) : ∃ b, F80 k v = some b ∧ F30 k v = some b ∧ (b = true → POK v) := by
 obtain ⟨b, h1, h2, h3⟩ := ps_l k v hl hk k 0 (Nat.zero_le _) (by omega)
 rw [List.drop_zero] at h3
 exact ⟨b, h1, h2, fun h => ⟨(h3 h).1, fun i hi h0 => (h3 h).2.1 i hi (Nat.zero_le _) h0, (h3 h).2.2⟩⟩
theorem Hn {p : den A2} (h : okO p = true) : (1 ≤ p.1 ∧ p.1 ≤ 255) ∧ p.2.length ≤ 3 ∧ ∀ m ∈ p.2, L0 p.1 m = true := by
 unfold okO at h
 simp only [Bool.and_eq_true, decide_eq_true_eq, List.all_eq_true] at h
 exact ⟨A8 h.1.1, h.1.2, h.2⟩
theorem Xd6 {n : Int} {m : den A5} (h : L0 n m = true) : Vy m = true ∧ @Eq Int m.2.2.1 n := by
 unfold L0 at h
 rw [Bool.and_eq_true] at h
 exact ⟨h.1, beq_iff_eq.1 h.2⟩
structure ShO (v : poL) : Prop where
 a : v.length ≤ 1000
 b : ∀ p ∈ v, p.2.length ≤ 1000
 c : ∀ p ∈ v, ∀ m ∈ p.2, m.2.2.2.length ≤ 1000
theorem POK.sh {v : poL} (h : POK v) : ShO v := ⟨by have := h.len; omega, fun p hp => by have := (Hn (h.ok p hp)).2.1; omega, fun p hp m hm => by have := (D4 (Xd6 ((Hn (h.ok p hp)).2.2 m hm)).1).2.2.2; omega⟩
theorem cpR (k : Nat) (v : poL) (i : Nat) (hi : i < v.length) (hr : v[i].2.length ≤ 1000) (hd : ∀ m ∈ v[i].2, m.2.2.2.length ≤ 1000) (M : poL) : ∀ (n j : Nat) (a : Int) (c : Wx), j ≤ v[i].2.length → v[i].2.length - j < n → c.length ≤ j →
  Ps k v n (i : Int) (j : Int) M (a, c) = some ((i : Int), ((v[i].2.length : Nat) : Int), M, (a, c ++ v[i].2.drop j))
 | 0, j, a, c, _, h, _ => by omega
 | n + 1, j, a, c, hj, h, hc => by
  rw [Ps]
  unfold N4; (try dsimp only [As, Bt])
  have i1 : decide ((i : Int) < ((v.length : Nat) : Int)) = true := decide_eq_true (by omega)
  have i0 : decide ((0 : Int) ≤ ((i : Nat) : Int)) = true := decide_eq_true (by omega)
  rw [Ao v i hi]
  rcases Nat.lt_or_ge j v[i].2.length with hlt | hge
  ·have d1 : decide ((j : Int) < ((v[i].2.length : Nat) : Int)) = true := decide_eq_true (by omega)
   have d0 : decide ((0 : Int) ≤ ((j : Nat) : Int)) = true := decide_eq_true (by omega)
   have hm := hd _ (List.getElem_mem hlt)
   have ih := cpR k v i hi hr hd M n (j + 1) a (c ++ [v[i].2[j]]) hlt (by omega) (by simp; omega)
   rw [Ao v[i].2 j hlt, D5 j (by omega)]
   refine (ct i0).trans ((ct i1).trans ((ct d1).trans ((ct i0).trans ((ct i1).trans ((ct d0).trans ((ct d1).trans ((ct (decide_eq_true (by show (0 + v[i].2[j].2.2.2.length) * 1 ≤ 140737488355328; omega))).trans ((ct (decide_eq_true (by show (c.length + 1) * 48 ≤ 140737488355328; omega))).trans (ih.trans ?_)))))))))
   rw [List.append_assoc, List.singleton_append, ← List.drop_eq_getElem_cons hlt]
  ·have : j = v[i].2.length := by omega
   subst this
   rw [List.drop_length, List.append_nil]
   exact (ct i0).trans ((ct i1).trans ((cf (decide_eq_false (by omega))).trans rfl))
theorem X6h (k : Nat) (v : poL) (hs : ShO v) (hk : 1048576 < k) : ∀ (n j : Nat) (M : poL), j ≤ v.length → v.length - j < n → M.length ≤ j → P7 k v n (j : Int) M = some (M ++ v.drop j)
 | 0, j, M, _, h, _ => by omega
 | n + 1, j, M, hj, h, hM => by
  rw [P7]
  have := hs.a
  rcases Nat.lt_or_ge j v.length with hlt | hge
  ·have d1 : decide ((j : Int) < ((v.length : Nat) : Int)) = true := decide_eq_true (by omega)
   have d0 : decide ((0 : Int) ≤ ((j : Nat) : Int)) = true := decide_eq_true (by omega)
   have hb := hs.b _ (List.getElem_mem hlt)
   have r1 := cpR k v j hlt hb (hs.c _ (List.getElem_mem hlt)) M k 0 v[j].1 [] (Nat.zero_le _) (by omega) (Nat.zero_le _)
   have ih := X6h k v hs hk n (j + 1) (M ++ [v[j]]) hlt (by omega) (by simp; omega)
   rw [Ao v j hlt]
   rw [List.drop_zero, List.nil_append] at r1
   refine (ct d1).trans ((ct d0).trans ((ct d1).trans ((bs r1).trans ((ct (decide_eq_true (by show (M.length + 1) * 32 ≤ 140737488355328; omega))).trans ?_))))
   dsimp only
   rw [D5 j (by omega)]
   refine ih.trans ?_
   rw [List.append_assoc, List.singleton_append, ← List.drop_eq_getElem_cons hlt]
  ·have : j = v.length := by omega
   subst this
   rw [List.drop_length, List.append_nil]
   exact (cf (decide_eq_false (by omega))).trans rfl
theorem Xem (k : Nat) (v : poL) (hs : ShO v) (hk : 1048576 < k) : F81 k v = some v := by
 have := hs.a
 exact X6h k v hs hk k 0 [] (Nat.zero_le _) (by omega) (Nat.zero_le _)
theorem X2e (k : Nat) (l : Wx) : Xet k l = some l := by
 simp only [Xet, Yk]
 rw [decide_eq_true (by omega : (0 : Int) ≤ ((l.length : Nat) : Int))]
 simp
theorem Xz9 (k : Nat) (l : poL) : Xgh k l = some l := by
 simp only [Xgh, Xaf]
 rw [decide_eq_true (by omega : (0 : Int) ≤ ((l.length : Nat) : Int))]
 simp
theorem cpI (k : Nat) (v : poL) (i : Int) (r : Wx) (hr : r.length ≤ 1000) (hd : ∀ m ∈ r, m.2.2.2.length ≤ 1000) (M : poL) : ∀ (n j : Nat) (a : Int) (c : Wx), j ≤ r.length → r.length - j < n → c.length ≤ j →
  P2 k v n i r ((r.length : Nat) : Int) (j : Int) M (a, c) = some (i, r, ((r.length : Nat) : Int), ((r.length : Nat) : Int), M, (a, c ++ r.drop j))
 | 0, j, a, c, _, h, _ => by omega
 | n + 1, j, a, c, hj, h, hc => by
  rw [P2]
  unfold Nu; (try dsimp only [As, Bt])
  rcases Nat.lt_or_ge j r.length with hlt | hge
  ·have d1 : decide ((j : Int) < ((r.length : Nat) : Int)) = true := decide_eq_true (by omega)
   have d0 : decide ((0 : Int) ≤ ((j : Nat) : Int)) = true := decide_eq_true (by omega)
   have hm := hd _ (List.getElem_mem hlt)
   have ih := cpI k v i r hr hd M n (j + 1) a (c ++ [r[j]]) hlt (by omega) (by simp; omega)
   have e := K6 k r[j].2.2.2 (by omega)
   rw [Ao r j hlt, D5 j (by omega)]
   refine (ct d1).trans ((ct d0).trans ((ct d1).trans ((bs e).trans ((ct (decide_eq_true (by show (c.length + 1) * 48 ≤ 140737488355328; omega))).trans (ih.trans ?_)))))
   rw [List.append_assoc, List.singleton_append, ← List.drop_eq_getElem_cons hlt]
  ·have : j = r.length := by omega
   subst this
   rw [List.drop_length, List.append_nil]
   exact (cf (decide_eq_false (by omega))).trans rfl
theorem X5l (k : Nat) (v : poL) (hs : ShO v) (hk : 1048576 < k) : ∀ (n j : Nat) (M : poL), j ≤ v.length → v.length - j < n → M.length ≤ j → Qd k v n (j : Int) M = some (M ++ v.drop j)
 | 0, j, M, _, h, _ => by omega
 | n + 1, j, M, hj, h, hM => by
  rw [Qd]
  have := hs.a
  rcases Nat.lt_or_ge j v.length with hlt | hge
  ·have d1 : decide ((j : Int) < ((v.length : Nat) : Int)) = true := decide_eq_true (by omega)
   have d0 : decide ((0 : Int) ≤ ((j : Nat) : Int)) = true := decide_eq_true (by omega)
   have hb := hs.b _ (List.getElem_mem hlt)
   have r1 := cpI k v (j : Int) v[j].2 hb (hs.c _ (List.getElem_mem hlt)) M k 0 v[j].1 [] (Nat.zero_le _) (by omega) (Nat.zero_le _)
   have ih := X5l k v hs hk n (j + 1) (M ++ [v[j]]) hlt (by omega) (by simp; omega)
   rw [Ao v j hlt]
   rw [List.drop_zero, List.nil_append] at r1
   refine (ct d1).trans ((ct d0).trans ((ct d1).trans ((bs r1).trans ((bs (X2e k v[j].2)).trans ((ct (decide_eq_true (by show (M.length + 1) * 32 ≤ 140737488355328; omega))).trans ?_)))))
   dsimp only
   rw [D5 j (by omega)]
   refine ih.trans ?_
   rw [List.append_assoc, List.singleton_append, ← List.drop_eq_getElem_cons hlt]
  ·have : j = v.length := by omega
   subst this
   rw [List.drop_length, List.append_nil]
   exact (cf (decide_eq_false (by omega))).trans ((bs (Xz9 k M)).trans rfl)
theorem Xq (k : Nat) (v : poL) (hs : ShO v) (hk : 1048576 < k) : F78 k v = some v := by
 have := hs.a
 exact X5l k v hs hk k 0 [] (Nat.zero_le _) (by omega) (Nat.zero_le _)
end Go.Proofs.YtdmepjjepogddaaGreat.Gn
end

section
namespace Go.Proofs.YtdmepjjepogddaaGreat.Gn
open Go.Rf Go.IntWalk
set_option linter.unusedVariables false
set_option linter.unusedSimpArgs false
theorem Xkb (q : Nat) (f t : Int) (b : Bc) (hf : 0 ≤ f ∧ f ≤ 65535) (ht : 0 ≤ t ∧ t ≤ 65535) (hb : BOk b) (hl : b.length ≤ 1000) (hk : 1048576 < q + 4) : Xey (q + 4) f t b = some (Ni (Dc f ++ Dc t ++ b)) := by
 unfold Xey Xa2; (try dsimp only [Bt])
 refine (bs (H9 q f hf)).trans ?_
 refine (bs (H9 q t ht)).trans ?_
 refine (ct (by rfl)).trans ?_
 have h4 : (Dc f ++ Dc t).length = 4 := rfl
 refine (ct (decide_eq_true (by rw [h4]; omega))).trans ?_
 refine (bs (Xkg (q + 4) (Dc f ++ Dc t ++ b) (((Ei hf).app (Ei ht)).app hb) (by rw [List.length_append, h4]; omega) hk)).trans rfl
theorem Ya3 (q : Nat) (f t : Int) (hf : 0 ≤ f ∧ f ≤ 65535) (ht : 0 ≤ t ∧ t ≤ 65535) : F95 (q + 4) f t = some (Dc f ++ Dc t) := by
 unfold F95 Xkv; (try dsimp only)
 refine (bs (Mh q f hf)).trans ?_
 refine (bs (Mh q t ht)).trans ?_
 have := Rs (q + 4) [Dc f, Dc t] (show 2 < q + 4 by omega) (by show 2 ≤ 1048576; omega) (by show 4 ≤ 4194304; omega)
 refine (bs this).trans ?_
 simp
def L2 (m : den A5) : Bc := [I1 m.2.1, I1 m.2.2.1, I1 ((m.2.2.2.length : Nat) : Int)] ++ m.2.2.2
def O6 (m : den A5) (t : Int) : Bc := L2 m ++ Dc (Ni (Dc m.1 ++ Dc t ++ L2 m))
def mb (m : den A5) (t : Int) : Bc := cond (Vy m && inB t 0 65535) (O6 m t) []
theorem Tx {m : den A5} (hb : BOk m.2.2.2) : BOk (L2 m) := BOk.nil.cons.cons.cons.app hb
theorem Kp (m : den A5) : (L2 m).length = m.2.2.2.length + 3 := by unfold L2; rw [List.length_append]; exact Nat.add_comm _ _
theorem Kh (m : den A5) (t : Int) : (O6 m t).length = m.2.2.2.length + 5 := by unfold O6; rw [List.length_append, Kp, Kz]
theorem Yga {m : den A5} {t : Int} (ho : Vy m = true) (ht : 0 ≤ t ∧ t ≤ 65535) (hb : BOk m.2.2.2) : 0 ≤ Ni (Dc m.1 ++ Dc t ++ L2 m) ∧ Ni (Dc m.1 ++ Dc t ++ L2 m) ≤ 65535 :=
 Y0 (((Ei (D4 ho).1).app (Ei ht)).app (Tx hb))
theorem Xru {m : den A5} {t : Int} (ho : Vy m = true) (ht : 0 ≤ t ∧ t ≤ 65535) (hb : BOk m.2.2.2) : BOk (O6 m t) := (Tx hb).app (Ei (Yga ho ht hb))
theorem Yiw {m : den A5} {t : Int} (hb : BOk m.2.2.2) : BOk (mb m t) ∧ (mb m t).length ≤ 45 := by
 unfold mb
 cases ho : Vy m with
 | false => exact ⟨BOk.nil, by simp⟩
 | true =>
  cases ht : inB t 0 65535 with
  | false => exact ⟨BOk.nil, by simp⟩
  | true =>
   refine ⟨Xru ho (A8 ht) hb, ?_⟩
   have := (D4 ho).2.2.2
   show (O6 m t).length ≤ 45
   rw [Kh]; omega
theorem X78 (q : Nat) (m : den A5) (t : Int) (hb : BOk m.2.2.2) (hk : 1048576 < q + 4) : F82 (q + 4) m t = some (mb m t) := by
 unfold F82 Xlc mb; (try dsimp only [Bt, Ff])
 refine (bs (Ya (q + 4) m)).trans ?_
 cases ho : Vy m with
 | false => rfl
 | true =>
  refine (cf rfl).trans ((bs (Bm (q + 4) t 0 65535)).trans ?_)
  cases ht : inB t 0 65535 with
  | false => rfl
  | true =>
   obtain ⟨a0, _, _, a4⟩ := D4 ho
   have hS := Yga ho (A8 ht) hb
   have hL := Kp m
   refine (cf rfl).trans ((ct (decide_eq_true (by show (3 + m.2.2.2.length) * 1 ≤ 140737488355328; omega))).trans ((bs (Xkb q m.1 t (L2 m) a0 (A8 ht) (Tx hb) (by omega) hk)).trans ((bs (H9 q _ hS)).trans ((ct (decide_eq_true ?_)).trans rfl))))
   show ((L2 m).length + 2) * 1 ≤ 140737488355328
   omega
theorem Xtn (q : Nat) (m : den A5) (t : Int) (hb : BOk m.2.2.2) (hk : 1048576 < q + 4) : F33 (q + 4) m t = some (mb m t) := by
 unfold F33 Xk8 mb; (try dsimp only [Bt, Ff])
 refine (bs (Xiw (q + 4) m)).trans ?_
 cases ho : Vy m with
 | false => rfl
 | true =>
  refine (cf rfl).trans ((bs (Fh (q + 4) t)).trans ?_)
  cases ht : inB t 0 65535 with
  | false => rfl
  | true =>
   obtain ⟨a0, _, _, a4⟩ := D4 ho
   have hS := Yga ho (A8 ht) hb
   have hL := Kp m
   have h4 : (Dc m.1 ++ Dc t).length = 4 := rfl
   have f1 : [Dc m.1 ++ Dc t, L2 m].flatten = Dc m.1 ++ Dc t ++ L2 m := by simp
   have c1 := Rs (q + 4) [Dc m.1 ++ Dc t, L2 m] (show 2 < q + 4 by omega) (by show 2 ≤ 1048576; omega) (by rw [f1, List.length_append, h4, hL]; omega)
   rw [f1] at c1
   have s1 := Xx3 q (Dc m.1 ++ Dc t ++ L2 m) (((Ei a0).app (Ei (A8 ht))).app (Tx hb)) (by rw [List.length_append, h4, hL]; omega)
   have f2 : [L2 m, Dc (Ni (Dc m.1 ++ Dc t ++ L2 m))].flatten = O6 m t := by simp [O6]
   have c2 := Rs (q + 4) [L2 m, Dc (Ni (Dc m.1 ++ Dc t ++ L2 m))] (show 2 < q + 4 by omega) (by show 2 ≤ 1048576; omega) (by rw [f2, Kh]; omega)
   rw [f2] at c2
   refine (cf rfl).trans ((ct (decide_eq_true (by show (3 + m.2.2.2.length) * 1 ≤ 140737488355328; omega))).trans ((bs (Ya3 q m.1 t a0 (A8 ht))).trans ((bs c1).trans ((bs s1).trans ((bs (Mh q _ hS)).trans ((bs c2).trans rfl))))))
theorem X88 (x : Bc) (s : Int) : n2 (x ++ Dc s) x.length = s := by
 have e1 : a8 (x ++ Dc s) x.length = s / 256 := by
  unfold a8
  rw [Ao (x ++ Dc s) x.length (by rw [List.length_append, Kz]; omega), List.getElem_append_right (Nat.le_refl _)]
  simp only [Nat.sub_self]
  rfl
 have e2 : a8 (x ++ Dc s) (x.length + 1) = s % 256 := by
  unfold a8
  rw [Ao (x ++ Dc s) (x.length + 1) (by rw [List.length_append, Kz]; omega), List.getElem_append_right (by omega)]
  simp only [Nat.add_sub_cancel_left]
  rfl
 unfold n2
 rw [e1, e2]
 omega
theorem Wr {m : den A5} (t : Int) (ho : Vy m = true) : IntKind.i64.wrap (((O6 m t).length : Int) - 2) = (((L2 m).length : Nat) : Int) ∧ (O6 m t).take (L2 m).length = L2 m ∧ (L2 m).drop 3 = m.2.2.2 ∧
  IntKind.i64.wrap (Ac (O6 m t) 0) = m.2.1 ∧ IntKind.i64.wrap (Ac (O6 m t) 1) = m.2.2.1 ∧ IntKind.i64.wrap (Ac (O6 m t) 2) = ((m.2.2.2.length : Nat) : Int) := by
 obtain ⟨_, a1, a2, a3⟩ := D4 ho
 have e : ∀ v : Int, 0 ≤ v ∧ v ≤ 255 → IntKind.i64.wrap (I1 v) = v := fun v hv => by
  have : I1 v = v := u8W v hv
  rw [this]
  exact i64_in v (by omega)
 refine ⟨?_, ?_, rfl, e _ ⟨Int.le_trans (by decide) a1.1, a1.2⟩, e _ ⟨Int.le_trans (by decide) a2.1, a2.2⟩, e _ (by omega)⟩
 ·rw [Kh, Kp, i64_in _ (by omega)]
  omega
 ·unfold O6
  exact List.take_left
theorem X0a (q : Nat) (m : den A5) (t : Int) (ho : Vy m = true) (ht : inB t 0 65535 = true) (hb : BOk m.2.2.2) (hk : 1048576 < q + 4) : Xh8 (q + 4) m.1 t (O6 m t) = some (m, true) := by
 obtain ⟨p0, p1, p2, p3, p4, p5⟩ := Wr t ho
 obtain ⟨a0, _, _, a3⟩ := D4 ho
 have hl := Kh m t
 have hL := Kp m
 have i1 := Bm (q + 4) m.1 0 65535
 rw [Cn a0] at i1
 have i2 := Bm (q + 4) t 0 65535
 rw [ht] at i2
 have i3 := Ya (q + 4) m
 rw [ho] at i3
 have n1 := Xld q (O6 m t) (Xru ho (A8 ht) hb) (by omega) (L2 m).length (by omega)
 have n2' : n2 (O6 m t) (L2 m).length = Ni (Dc m.1 ++ Dc t ++ L2 m) := X88 _ _
 rw [n2'] at n1
 have s1 := Xkb q m.1 t (L2 m) a0 (A8 ht) (Tx hb) (by omega) hk
 unfold Xh8 Yz; (try dsimp only [Bt])
 rw [p0, p3, p4, p5, Int.toNat_natCast, p1, p2]
 refine (cf (decide_eq_false (by omega))).trans ((bs i1).trans ((cf rfl).trans ((bs i2).trans ((cf rfl).trans ((ct (decide_eq_true (by omega))).trans ((ct (decide_eq_true (by omega))).trans ((ct (by rw [decide_eq_true (by omega : (0 : Int) ≤ (((L2 m).length : Nat) : Int)), decide_eq_true (by omega : (((L2 m).length : Nat) : Int) ≤ (((O6 m t).length : Nat) : Int))]; rfl)).trans ((ct (by rw [decide_eq_true (by omega : (3 : Int) ≤ (((L2 m).length : Nat) : Int))]; rfl)).trans ?_))))))))
 refine (ct (decide_eq_true (by show (0 + m.2.2.2.length) * 1 ≤ 140737488355328; omega))).trans ((bs i3).trans ((cf rfl).trans ((ct (decide_eq_true (by omega))).trans ((cf (bne_self_eq_false _)).trans ((bs n1).trans ((ct (by rw [decide_eq_true (by omega : (0 : Int) ≤ (((L2 m).length : Nat) : Int)), decide_eq_true (by omega : (((L2 m).length : Nat) : Int) ≤ (((O6 m t).length : Nat) : Int))]; rfl)).trans ((bs s1).trans ((cf (bne_self_eq_false _)).trans rfl))))))))
theorem Yfl (q : Nat) (m : den A5) (t : Int) (ho : Vy m = true) (ht : inB t 0 65535 = true) (hb : BOk m.2.2.2) (hk : 1048576 < q + 4) : F90 (q + 4) m.1 t (O6 m t) = some (m, true) := by
 obtain ⟨p0, p1, p2, p3, p4, p5⟩ := Wr t ho
 obtain ⟨a0, _, _, a3⟩ := D4 ho
 have hl := Kh m t
 have hL := Kp m
 have c1 := K6 (q + 4) m.2.2.2 (by omega)
 have m1 := Xtn q m t hb hk
 rw [show mb m t = O6 m t by unfold mb; rw [ho, ht]; rfl] at m1
 have e1 := Xkf (q + 4) (O6 m t) (O6 m t) (by omega) (by omega)
 rw [decide_eq_true rfl] at e1
 unfold F90 Xjl; (try dsimp only)
 rw [p0, p3, p4, Int.toNat_natCast, p1, p2]
 refine (cf (decide_eq_false (by omega))).trans ((ct (decide_eq_true (by omega))).trans ((ct (decide_eq_true (by omega))).trans ((ct (by rw [decide_eq_true (by omega : (0 : Int) ≤ (((L2 m).length : Nat) : Int)), decide_eq_true (by omega : (((L2 m).length : Nat) : Int) ≤ (((O6 m t).length : Nat) : Int))]; rfl)).trans ((ct (by rw [decide_eq_true (by omega : (3 : Int) ≤ (((L2 m).length : Nat) : Int))]; rfl)).trans ?_))))
 exact (bs c1).trans ((bs m1).trans ((bs e1).trans ((cf rfl).trans rfl)))
theorem Xqg (k : Nat) (f t : Int) : Xh8 k f t [] = some ((0, 0, 0, []), false) := rfl
theorem Xyv (k : Nat) (f t : Int) : F90 k f t [] = some ((0, 0, 0, []), false) := rfl
end Go.Proofs.YtdmepjjepogddaaGreat.Gn
end

section
namespace Go.Proofs.YtdmepjjepogddaaGreat.Gn
open Go.Rf Go.IntWalk
set_option linter.unusedVariables false
set_option linter.unusedSimpArgs false
def V2 (n : Int) (p : den A2) : Bool := @BEq.beq Int _ p.1 n
def fiP (n : Int) : poL → Nat → Int
 | [], _ => -1
 | p :: l, j => cond (V2 n p) (j : Int) (fiP n l (j + 1))
theorem Xsf (k : Nat) (v : poL) (n : Int) (hl : v.length ≤ 1000) : ∀ (c j : Nat), j ≤ v.length → v.length - j < c → Lg k v n c (j : Int) = some (fiP n (v.drop j) j)
 | 0, j, _, h => by omega
 | c + 1, j, hj, h => by
  rw [Lg]
  unfold K0; (try dsimp only [As])
  rcases Nat.lt_or_ge j v.length with hlt | hge
  ·have d1 : decide ((j : Int) < ((v.length : Nat) : Int)) = true := decide_eq_true (by omega)
   have d0 : decide ((0 : Int) ≤ ((j : Nat) : Int)) = true := decide_eq_true (by omega)
   rw [Ao v j hlt, D5 j (by omega), List.drop_eq_getElem_cons hlt]
   refine (ct d1).trans ((ct d0).trans ((ct d1).trans ?_))
   rw [fiP, Xsf k v n hl c (j + 1) hlt (by omega)]
   exact K8 (V2 n v[j]) _ _
  ·have : j = v.length := by omega
   subst this
   rw [List.drop_length]
   exact (cf (decide_eq_false (by omega))).trans rfl
theorem Xzq (k : Nat) (v : poL) (n : Int) (hl : v.length ≤ 1000) (hk : 1048576 < k) : Xsi k v n = some (fiP n v 0) := Xsf k v n hl k 0 (Nat.zero_le _) (by omega)
theorem Xb6 {n : Int} : ∀ {l : poL} {j : Nat}, (∀ p ∈ l, V2 n p = false) → fiP n l j = -1
 | [], _, _ => rfl
 | p :: l, j, h => by
  rw [fiP, h p (by simp)]
  exact Xb6 fun q hq => h q (by simp [hq])
theorem Xdx {n : Int} : ∀ {l : poL} {j r : Nat} (h : r < l.length), V2 n l[r] = true → (∀ (t : Nat) (ht : t < r), V2 n (l[t]'(by omega)) = false) → fiP n l j = ((j + r : Nat) : Int)
 | p :: l, j, 0, h, h1, _ => by
  have h1 : V2 n p = true := h1
  rw [fiP, h1]
  rfl
 | p :: l, j, r + 1, h, h1, h2 => by
  have h0 : V2 n p = false := h2 0 (by omega)
  rw [fiP, h0]
  refine (Xdx (j := j + 1) (r := r) (by simpa using h) (by simpa using h1) (fun t ht => by simpa using h2 (t + 1) (by omega))).trans ?_
  congr 1
  omega
theorem POK.mono {v : poL} (S : POK v) : ∀ (d i : Nat) (h : i + d + 1 < v.length), @LT.lt Int _ (v[i]'(by omega)).1 v[i + d + 1].1
 | 0, i, h => S.lt (i + 1) h (by omega)
 | d + 1, i, h => by
  have h1 := POK.mono S d i (by omega)
  have h2 := S.lt (i + d + 2) h (by omega)
  exact Int.lt_trans h1 h2
theorem POK.mono' {v : poL} (S : POK v) {i j : Nat} (h : i < j) (hj : j < v.length) : @LT.lt Int _ (v[i]'(by omega)).1 v[j].1 := by
 obtain ⟨d, rfl⟩ : ∃ d, j = i + d + 1 := ⟨j - i - 1, by omega⟩
 exact S.mono d i hj
theorem Xby {n : Int} {p : den A2} : V2 n p = true ↔ @Eq Int p.1 n := beq_iff_eq
theorem Xj8 {n : Int} {p : den A2} (h : ¬ @Eq Int p.1 n) : V2 n p = false := by
 cases hh : V2 n p with
 | false => rfl
 | true => exact absurd (Xby.1 hh) h
theorem Xj6 (k : Nat) (p : den A2) (n : Int) : Xg4 k p n = some (Pq p.1 n) := by
 unfold Xg4; (try dsimp only)
 exact (bs (Xae k p.1 n)).trans rfl
theorem X9f (k : Nat) (v : poL) (w : Int) (S : POK v) : ∀ (n i j : Nat), i ≤ j → j ≤ v.length → j - i < n → (∀ (t : Nat) (ht : t < v.length), t < i → @LT.lt Int _ v[t].1 w) → (∀ (t : Nat) (ht : t < v.length), j ≤ t → @LE.le Int _ w v[t].1) →
  ∃ (r : Nat) (f : Bool), Kx k v w n (i : Int) (j : Int) = some ((r : Int), f) ∧ (f = true → ∃ h : r < v.length, @Eq Int v[r].1 w) ∧ (f = false → ∀ p ∈ v, ¬ @Eq Int p.1 w)
 | 0, i, j, _, _, h, _, _ => by omega
 | n + 1, i, j, hij, hj, h, h1, h2 => by
  have hl := S.len
  rw [Kx]
  unfold Kj; (try dsimp only [As])
  rcases Nat.lt_or_ge i j with hlt | hge
  ·have e : IntKind.i64.wrap ((IntKind.u64.wrap (IntKind.i64.wrap ((i : Int) + (j : Int)))).fdiv (2 ^ (1))) = (((i + j) / 2 : Nat) : Int) := by
    rw [i64_in ((i : Int) + (j : Int)) (by omega), u64_in ((i : Int) + (j : Int)) (by omega), show ((2 : Int) ^ 1) = 2 from rfl, Int.fdiv_eq_ediv_of_nonneg _ (by omega), i64_in _ (by omega)]
    omega
   rw [e]
   have hm1 : i ≤ (i + j) / 2 := by omega
   have hm2 : (i + j) / 2 < j := by omega
   generalize (i + j) / 2 = m at *
   have hml : m < v.length := by omega
   rw [Ao v m hml, D5 m (by omega)]
   have d1 : decide ((m : Int) < ((v.length : Nat) : Int)) = true := decide_eq_true (by omega)
   have d0 : decide ((0 : Int) ≤ ((m : Nat) : Int)) = true := decide_eq_true (by omega)
   have e1 := Xj6 k v[m] w
   by_cases c : @LT.lt Int _ v[m].1 w
   ·obtain ⟨r, f, q1, q2, q3⟩ := X9f k v w S n (m + 1) j (by omega) hj (by omega) (fun t ht htm => by
     rcases Nat.lt_or_ge t m with q | q
     ·exact Int.lt_trans (S.mono' q hml) c
     ·obtain rfl : t = m := by omega
      exact c) h2
    refine ⟨r, f, (ct (decide_eq_true (by omega))).trans ((ct d0).trans ((ct d1).trans ((bs e1).trans ((ct ?_).trans q1)))), q2, q3⟩
    unfold Pq
    rw [if_pos c]
    rfl
   ·obtain ⟨r, f, q1, q2, q3⟩ := X9f k v w S n i m hm1 (by omega) (by omega) h1 (fun t ht htm => by
     rcases Nat.lt_or_ge m t with q | q
     ·exact Int.le_trans (Int.not_lt.1 c) (Int.le_of_lt (S.mono' q ht))
     ·obtain rfl : t = m := by omega
      exact Int.not_lt.1 c)
    refine ⟨r, f, (ct (decide_eq_true (by omega))).trans ((ct d0).trans ((ct d1).trans ((bs e1).trans ((cf ?_).trans q1)))), q2, q3⟩
    unfold Pq
    rw [if_neg c]
    split <;> rfl
  ·obtain rfl : i = j := by omega
   have d9 : decide ((i : Int) < (i : Int)) = false := decide_eq_false (by omega)
   by_cases c : i < v.length
   ·have d1 : decide ((i : Int) < ((v.length : Nat) : Int)) = true := decide_eq_true (by omega)
    have d0 : decide ((0 : Int) ≤ ((i : Nat) : Int)) = true := decide_eq_true (by omega)
    have e1 := Xj6 k v[i] w
    rw [Ao v i c]
    refine ⟨i, Pq v[i].1 w == 0, (cf d9).trans ((ct d1).trans ((ct d0).trans ((ct d1).trans ((bs e1).trans rfl)))), fun hf => ⟨c, ?_⟩, fun hf p hp he => ?_⟩
    ·have := beq_iff_eq.1 hf
     unfold Pq at this
     by_cases q : @LT.lt Int _ v[i].1 w
     ·rw [if_pos q] at this; cases this
     ·rw [if_neg q] at this
      by_cases q2 : @GT.gt Int _ v[i].1 w
      ·rw [if_pos q2] at this; cases this
      ·exact Int.le_antisymm (Int.not_lt.1 q2) (Int.not_lt.1 q)
    ·obtain ⟨t, ht, rfl⟩ := List.mem_iff_getElem.1 hp
     rcases Nat.lt_trichotomy t i with q | q | q
     ·have := h1 t ht q
      rw [he] at this
      exact Int.lt_irrefl _ this
     ·subst q
      unfold Pq at hf
      rw [if_neg (by rw [he]; exact Int.lt_irrefl _), if_neg (by rw [he]; exact Int.lt_irrefl _)] at hf
      cases hf
     ·have a1 := h2 i c (Nat.le_refl _)
      have a2 := S.mono' q ht
      rw [he] at a2
      exact Int.lt_irrefl _ (Int.lt_of_le_of_lt a1 a2)
   ·refine ⟨i, false, (cf d9).trans ((cf (decide_eq_false (by omega))).trans rfl), fun hf => (by cases hf), fun _ p hp he => ?_⟩
    obtain ⟨t, ht, rfl⟩ := List.mem_iff_getElem.1 hp
    have := h1 t ht (by omega)
    rw [he] at this
    exact Int.lt_irrefl _ this
theorem Xoo (k : Nat) {v : poL} (w : Int) (S : POK v) (hk : 1048576 < k) : ∃ (r : Nat) (f : Bool), F91 k v w = some ((r : Int), f) ∧ ((f = false ∧ fiP w v 0 = -1) ∨ (f = true ∧ r < v.length ∧ fiP w v 0 = (r : Int))) := by
 have hl := S.len
 obtain ⟨r, f, h1, h2, h3⟩ := X9f k v w S k 0 v.length (Nat.zero_le _) (Nat.le_refl _) (by omega) (fun t ht h => by omega) (fun t ht h => by omega)
 refine ⟨r, f, ?_, ?_⟩
 ·unfold F91; (try dsimp only)
  exact (bs h1).trans rfl
 ·cases f with
  | false => exact .inl ⟨rfl, Xb6 fun p hp => Xj8 (h3 rfl p hp)⟩
  | true =>
   obtain ⟨hr, he⟩ := h2 rfl
   refine .inr ⟨rfl, hr, ?_⟩
   have := Xdx (n := w) (j := 0) hr (Xby.2 he) (fun t ht => Xj8 fun hq => by
    have := S.mono' ht hr
    rw [hq, he] at this
    exact Int.lt_irrefl _ this)
   rw [this, Nat.zero_add]
def Sb (v : poL) (m : den A5) : poL × Int :=
 cond (decide (fiP m.2.2.1 v 0 < 0)) (v, 3) (cond (decide ((Ac v (fiP m.2.2.1 v 0)).2.length = 3)) (v, 0) (v.set (fiP m.2.2.1 v 0).toNat ((Ac v (fiP m.2.2.1 v 0)).1, (Ac v (fiP m.2.2.1 v 0)).2 ++ [m]), 1))
structure Sm3 (v : poL) : Prop where
 a : v.length ≤ 5
 b : ∀ p ∈ v, p.2.length ≤ 5
 c : ∀ p ∈ v, ∀ m ∈ p.2, m.2.2.2.length ≤ 45
theorem Sm3.sh {v : poL} (h : Sm3 v) : ShO v := ⟨by have := h.a; omega, fun p hp => by have := h.b p hp; omega, fun p hp m hm => by have := h.c p hp m hm; omega⟩
theorem Xjc {B : Nat} : ∀ {l : Wx}, (∀ m ∈ l, m.2.2.2.length ≤ B) → Er l ≤ l.length * B
 | [], _ => by simp [Er]
 | m :: l, h => by
  have h1 := h m (by simp)
  have h2 := Xjc (B := B) (l := l) fun x hx => h x (by simp [hx])
  simp only [Er, List.length_cons, Nat.add_mul]
  omega
theorem Xlp {B : Nat} : ∀ {l : poL}, (∀ p ∈ l, p.2.length + Er p.2 ≤ B) → Fi l ≤ l.length * B
 | [], _ => by simp [Fi]
 | m :: l, h => by
  have h1 := h m (by simp)
  have h2 := Xlp (B := B) (l := l) fun x hx => h x (by simp [hx])
  simp only [Fi, List.length_cons, Nat.add_mul]
  omega
theorem Sm3.sum {v : poL} (h : Sm3 v) : Fi v ≤ 1150 := by
 have h1 := Xlp (B := 230) (l := v) fun p hp => by
  have a1 := h.b p hp
  have a2 := Xjc (h.c p hp)
  have a3 : p.2.length * 45 ≤ 5 * 45 := Nat.mul_le_mul_right _ a1
  omega
 have a3 : v.length * 230 ≤ 5 * 230 := Nat.mul_le_mul_right _ h.a
 omega
theorem POK.sm {v : poL} (h : POK v) : Sm3 v := ⟨by have := h.len; omega, fun p hp => by have := (Hn (h.ok p hp)).2.1; omega, fun p hp m hm => by have := (D4 (Xd6 ((Hn (h.ok p hp)).2.2 m hm)).1).2.2.2; omega⟩
theorem Sm3.nil : Sm3 [] := ⟨by simp, fun p hp => (by cases hp), fun p hp => (by cases hp)⟩
theorem Sm3.put {v : poL} (h : POK v) {m : den A5} (hm : m.2.2.2.length ≤ 40) {r : Nat} (hr : r < v.length) : Sm3 (v.set r (v[r].1, v[r].2 ++ [m])) := by
 have hs := h.sm
 have hb := (Hn (h.ok _ (List.getElem_mem hr))).2.1
 refine ⟨by rw [List.length_set]; exact hs.a, fun p hp => ?_, fun p hp x hx => ?_⟩
 ·rcases List.mem_or_eq_of_mem_set hp with hp | rfl
  ·exact hs.b p hp
  ·show (v[r].2 ++ [m]).length ≤ 5
   rw [List.length_append, List.length_singleton]; omega
 ·rcases List.mem_or_eq_of_mem_set hp with hp | rfl
  ·exact hs.c p hp x hx
  ·rcases List.mem_append.1 hx with hx | hx
   ·exact hs.c _ (List.getElem_mem hr) x hx
   ·obtain rfl := List.mem_singleton.1 hx
    omega
theorem Xxr {v : poL} (S : POK v) {m : den A5} (hm : m.2.2.2.length ≤ 40) (hf : fiP m.2.2.1 v 0 = -1 ∨ ∃ r : Nat, r < v.length ∧ fiP m.2.2.1 v 0 = (r : Int)) : Sm3 (Sb v m).1 := by
 unfold Sb
 rcases hf with e | ⟨r, hr, e⟩
 ·rw [e]; exact S.sm
 ·rw [e, decide_eq_false (by omega), Ao v r hr, Int.toNat_natCast]
  cases decide (v[r].2.length = 3) with
  | true => exact S.sm
  | false => exact Sm3.put S hm hr
theorem Xi8 (q : Nat) {v : poL} (S : POK v) (s1 : F80 (q + 4) v = some true) (s2 : F30 (q + 4) v = some true) (m : den A5) {t h : Int} (ho : Vy m = true) (ht : inB t 0 65535 = true) (hb : BOk m.2.2.2) (hh : 0 ≤ h ∧ h ≤ 255) (hk : 1048576 < q + 4) :
  F83 (q + 4) v t (m.1, t, 2, h, 0, 0, false, false, O6 m t) = some (Sb v m) ∧ F32 (q + 4) v t (m.1, t, 2, h, 0, 0, false, false, O6 m t) = some (Sb v m) ∧ Sm3 (Sb v m).1 := by
 obtain ⟨a0, _, _, a3⟩ := D4 ho
 have hl := Kh m t
 have po : Lr (m.1, t, 2, h, 0, 0, false, false, O6 m t) = true := My a0 (A8 ht) (by omega) hh (by omega) (by omega) (by omega) (fun e => by cases e) (fun e => by cases e)
 have p1 := Cz (q + 4) (m.1, t, 2, h, 0, 0, false, false, O6 m t)
 have p2 := Mz (q + 4) (m.1, t, 2, h, 0, 0, false, false, O6 m t)
 rw [po] at p1 p2
 have c1 := Xem (q + 4) v S.sh hk
 have c2 := Xq (q + 4) v S.sh hk
 have f1 := X0a q m t ho ht hb hk
 have f2 := Yfl q m t ho ht hb hk
 have l1 := Xzq (q + 4) v m.2.2.1 S.sh.a hk
 obtain ⟨r, f, l2, l3⟩ := Xoo (q + 4) m.2.2.1 S hk
 have z1 : (t != t) = false := bne_self_eq_false t
 have sm := Xxr S a3 (l3.elim (fun h => .inl h.2) fun h => .inr ⟨r, h.2.1, h.2.2⟩)
 refine ⟨?_, ?_, sm⟩
 ·unfold F83 Xd8; (try dsimp only [As, Bt, A1])
  refine (bs s1).trans ((cf rfl).trans ((bs c1).trans ((bs f1).trans ((bs p1).trans ((cf rfl).trans ((cf rfl).trans ((cf z1).trans ((cf rfl).trans ((cf rfl).trans ((cf rfl).trans ((bs l1).trans ?_)))))))))))
  unfold Sb
  rcases l3 with ⟨_, e⟩ | ⟨_, hr, e⟩
  ·rw [e]
   exact (ct rfl).trans rfl
  ·rw [e, decide_eq_false (by omega : ¬ (r : Int) < 0), Ao v r hr, Int.toNat_natCast]
   have d1 : decide ((r : Int) < ((v.length : Nat) : Int)) = true := decide_eq_true (by omega)
   have d0 : decide ((0 : Int) ≤ ((r : Nat) : Int)) = true := decide_eq_true (by omega)
   have hb3 := (Hn (S.ok _ (List.getElem_mem hr))).2.1
   refine (cf rfl).trans ((ct d0).trans ((ct d1).trans ?_))
   by_cases c : v[r].2.length = 3
   ·rw [decide_eq_true c]
    exact (ct (by rw [c]; rfl)).trans rfl
   ·rw [decide_eq_false c]
    refine (cf (beq_eq_false_iff_ne.2 (by omega))).trans ((ct d0).trans ((ct d1).trans ((ct (decide_eq_true (by show (v[r].2.length + 1) * 48 ≤ 140737488355328; omega))).trans ((ct d0).trans ((ct d1).trans ((ct (decide_eq_true rfl)).trans rfl))))))
 ·unfold F32 Xd2; (try dsimp only [As, Bt])
  refine (bs s2).trans ((cf rfl).trans ((bs c2).trans ((bs p2).trans ((cf rfl).trans ((cf rfl).trans ((cf rfl).trans ((cf rfl).trans ((cf z1).trans ((bs f2).trans ((cf rfl).trans ((bs l2).trans ?_)))))))))))
  unfold Sb
  rcases l3 with ⟨hf, e⟩ | ⟨hf, hr, e⟩
  ·rw [e, hf]
   exact (ct rfl).trans rfl
  ·rw [e, hf, decide_eq_false (by omega : ¬ (r : Int) < 0), Ao v r hr, Int.toNat_natCast]
   have d1 : decide ((r : Int) < ((v.length : Nat) : Int)) = true := decide_eq_true (by omega)
   have d0 : decide ((0 : Int) ≤ ((r : Nat) : Int)) = true := decide_eq_true (by omega)
   have hb3 := (Hn (S.ok _ (List.getElem_mem hr))).2.1
   refine (cf rfl).trans ?_
   refine (ct d0).trans ((ct d1).trans ?_)
   by_cases c : v[r].2.length = 3
   ·rw [decide_eq_true c]
    exact (ct (decide_eq_true (by omega))).trans rfl
   ·rw [decide_eq_false c]
    have c3 := Xq (q + 4) (v.set r (v[r].1, v[r].2 ++ [m])) (Sm3.put S a3 hr).sh hk
    exact (cf (decide_eq_false (by omega))).trans ((ct d0).trans ((ct d1).trans ((ct (decide_eq_true (by show (v[r].2.length + 1) * 48 ≤ 140737488355328; omega))).trans ((ct d0).trans ((ct d1).trans ((ct (decide_eq_true rfl)).trans ((bs c3).trans rfl)))))))
theorem Xc2 (q : Nat) {v : poL} (S : POK v) (s1 : F80 (q + 4) v = some true) (s2 : F30 (q + 4) v = some true) (f t h : Int) (hk : 1048576 < q + 4) :
  F83 (q + 4) v t (f, t, 2, h, 0, 0, false, false, []) = some (v, 0) ∧ F32 (q + 4) v t (f, t, 2, h, 0, 0, false, false, []) = some (v, 0) := by
 have p1 := Cz (q + 4) (f, t, 2, h, 0, 0, false, false, [])
 have p2 := Mz (q + 4) (f, t, 2, h, 0, 0, false, false, [])
 have c1 := Xem (q + 4) v S.sh hk
 have c2 := Xq (q + 4) v S.sh hk
 have f1 := Xqg (q + 4) f t
 have f2 := Xyv (q + 4) f t
 have z1 : (t != t) = false := bne_self_eq_false t
 unfold F83 Xd8 F32 Xd2; (try dsimp only [As, Bt, A1])
 cases ho : Lr (f, t, 2, h, 0, 0, false, false, []) with
 | false =>
  rw [ho] at p1 p2
  exact ⟨(bs s1).trans ((cf rfl).trans ((bs c1).trans ((bs f1).trans ((bs p1).trans ((ct rfl).trans rfl))))), (bs s2).trans ((cf rfl).trans ((bs c2).trans ((bs p2).trans ((ct rfl).trans rfl))))⟩
 | true =>
  rw [ho] at p1 p2
  exact ⟨(bs s1).trans ((cf rfl).trans ((bs c1).trans ((bs f1).trans ((bs p1).trans ((cf rfl).trans ((cf rfl).trans ((cf z1).trans ((cf rfl).trans ((cf rfl).trans ((ct rfl).trans rfl)))))))))),
   (bs s2).trans ((cf rfl).trans ((bs c2).trans ((bs p2).trans ((cf rfl).trans ((cf rfl).trans ((cf rfl).trans ((cf rfl).trans ((cf z1).trans ((bs f2).trans ((ct rfl).trans rfl))))))))))⟩
end Go.Proofs.YtdmepjjepogddaaGreat.Gn
end

section
namespace Go.Proofs.YtdmepjjepogddaaGreat.Gn
open Go.Rf Go.IntWalk
set_option linter.unusedVariables false
set_option linter.unusedSimpArgs false
theorem Xr7 (q : Nat) {v : poL} {w : Ks} (p t : Int) {o : den A5} (hv : v.length ≤ 1048576) (hl : w.length ≤ 1048576) (hs : Gx w ≤ 1048576) (hb : BOk o.2.2.2) (hk : 1048576 < q + 4) :
  ∃ r : poL × Int, F28 (q + 4) v w p t o = some r ∧ F27 (q + 4) v w p t o = some r ∧ Sm3 r.1 := by
 obtain ⟨b, s1, s2, s3⟩ := Ykg (q + 4) v hv hk
 obtain ⟨c, n1, n2, n3⟩ := Xvk q w hl hs hk
 have i1 := Bm (q + 4) p 0 (IntKind.i64.wrap ((w.length : Int) - 1))
 have i2 := C1 (q + 4) p 0 (IntKind.i64.wrap ((w.length : Int) - 1))
 have wl1 : IntKind.i64.wrap ((w.length : Int) - 1) = (w.length : Int) - 1 := i64_in _ (by omega)
 have w1 := Fh (q + 4) t
 unfold F28 Xjn F27 Xke; (try dsimp only [As, Ff])
 cases b with
 | false => exact ⟨([], 0), (bs s1).trans ((ct rfl).trans rfl), (bs s2).trans ((ct rfl).trans rfl), Sm3.nil⟩
 | true =>
  have S := s3 rfl
  have c1 := Xem (q + 4) v S.sh hk
  have c2 := Xq (q + 4) v S.sh hk
  cases c with
  | false => exact ⟨(v, 0), (bs s1).trans ((cf rfl).trans ((bs n1).trans ((ct rfl).trans ((bs c1).trans rfl)))), (bs s2).trans ((cf rfl).trans ((bs n2).trans ((ct rfl).trans ((bs c2).trans rfl)))), S.sm⟩
  | true =>
   cases hw : inB p 0 (IntKind.i64.wrap ((w.length : Int) - 1)) with
   | false =>
    rw [hw] at i1 i2
    exact ⟨(v, 0), (bs s1).trans ((cf rfl).trans ((bs n1).trans ((cf rfl).trans ((bs i1).trans ((ct rfl).trans ((bs c1).trans rfl)))))), (bs s2).trans ((cf rfl).trans ((bs n2).trans ((cf rfl).trans ((bs i2).trans ((ct rfl).trans ((bs c2).trans rfl)))))), S.sm⟩
   | true =>
    rw [hw] at i1 i2
    rw [wl1] at hw
    have hw := A8 hw
    obtain ⟨a, rfl⟩ : ∃ i : Nat, p = (i : Int) := ⟨p.toNat, by omega⟩
    have ha : a < w.length := by omega
    have d1 : decide ((a : Int) < (w.length : Int)) = true := decide_eq_true (by omega)
    have d0 : decide ((0 : Int) ≤ (a : Int)) = true := decide_eq_true (by omega)
    rw [Ao w a ha]
    generalize hm : ((w[a].1, o.2.1, o.2.2.1, o.2.2.2) : den A5) = m
    have hbm : BOk m.2.2.2 := by rw [← hm]; exact hb
    have hm1 : w[a].1 = m.1 := by rw [← hm]
    rw [hm1]
    have m1 := X78 q m t hbm hk
    have m2 := Xtn q m t hbm hk
    have o2 := Xiw (q + 4) m
    obtain ⟨k1, k2⟩ := Yiw (t := t) hbm
    obtain ⟨r, r1, r2, r3, _⟩ := Xi2 q (a : Int) t 2 0 hl hs k1 (by omega) hk
    rcases r3 with rfl | rfl
    ·refine ⟨(v, 0), (bs s1).trans ((cf rfl).trans ((bs n1).trans ((cf rfl).trans ((bs i1).trans ((cf rfl).trans ((ct d0).trans ((ct d1).trans ((bs m1).trans ((bs r1).trans ((ct rfl).trans ((bs c1).trans rfl))))))))))), (bs s2).trans ((cf rfl).trans ((bs n2).trans ((cf rfl).trans ((bs i2).trans ((cf rfl).trans ((bs w1).trans ?_)))))), S.sm⟩
     cases ht : inB t 0 65535 with
     | false => exact (ct rfl).trans ((bs c2).trans rfl)
     | true =>
      refine (cf rfl).trans ((ct d0).trans ((ct d1).trans ((bs o2).trans ?_)))
      cases ho : Vy m with
      | false => exact (ct rfl).trans ((bs c2).trans rfl)
      | true => exact (cf rfl).trans ((bs m2).trans ((bs r2).trans ((ct rfl).trans ((bs c2).trans rfl))))
    ·cases ht : inB t 0 65535 with
     | false =>
      rw [ht] at w1
      have e : mb m t = [] := by unfold mb; rw [ht, Bool.and_false]; rfl
      rw [e] at m1 r1
      have h1 := (Xc2 q S s1 s2 m.1 t 0 hk).1
      exact ⟨(v, 0), (bs s1).trans ((cf rfl).trans ((bs n1).trans ((cf rfl).trans ((bs i1).trans ((cf rfl).trans ((ct d0).trans ((ct d1).trans ((bs m1).trans ((bs r1).trans ((cf rfl).trans ((bs h1).trans rfl))))))))))), (bs s2).trans ((cf rfl).trans ((bs n2).trans ((cf rfl).trans ((bs i2).trans ((cf rfl).trans ((bs w1).trans ((ct rfl).trans ((bs c2).trans rfl)))))))), S.sm⟩
     | true =>
      rw [ht] at w1
      cases ho : Vy m with
      | false =>
       rw [ho] at o2
       have e : mb m t = [] := by unfold mb; rw [ho, Bool.false_and]; rfl
       rw [e] at m1 r1
       have h1 := (Xc2 q S s1 s2 m.1 t 0 hk).1
       exact ⟨(v, 0), (bs s1).trans ((cf rfl).trans ((bs n1).trans ((cf rfl).trans ((bs i1).trans ((cf rfl).trans ((ct d0).trans ((ct d1).trans ((bs m1).trans ((bs r1).trans ((cf rfl).trans ((bs h1).trans rfl))))))))))), (bs s2).trans ((cf rfl).trans ((bs n2).trans ((cf rfl).trans ((bs i2).trans ((cf rfl).trans ((bs w1).trans ((cf rfl).trans ((ct d0).trans ((ct d1).trans ((bs o2).trans ((ct rfl).trans ((bs c2).trans rfl)))))))))))), S.sm⟩
      | true =>
       rw [ho] at o2
       have e : mb m t = O6 m t := by unfold mb; rw [ho, ht]; rfl
       rw [e] at m1 m2 r1 r2
       obtain ⟨h1, _, h3⟩ := Xi8 q S s1 s2 m (h := 0) ho ht hbm (by omega) hk
       obtain ⟨_, h2, _⟩ := Xi8 q S s1 s2 m (h := 64) ho ht hbm (by omega) hk
       exact ⟨Sb v m, (bs s1).trans ((cf rfl).trans ((bs n1).trans ((cf rfl).trans ((bs i1).trans ((cf rfl).trans ((ct d0).trans ((ct d1).trans ((bs m1).trans ((bs r1).trans ((cf rfl).trans ((bs h1).trans rfl))))))))))), (bs s2).trans ((cf rfl).trans ((bs n2).trans ((cf rfl).trans ((bs i2).trans ((cf rfl).trans ((bs w1).trans ((cf rfl).trans ((ct d0).trans ((ct d1).trans ((bs o2).trans ((cf rfl).trans ((bs m2).trans ((bs r2).trans ((cf rfl).trans ((bs h2).trans rfl))))))))))))))), h3⟩
theorem X0f (k : Nat) (v : Ks) (x : Int) (hx : 0 ≤ x ∧ x ≤ 1048576) (hl : v.length ≤ maxLen) (hs : ∀ s ∈ v, s.2.length ≤ maxLen) (hk : 1048576 < k) : ∃ b, F12 k v x = some b ∧ (b < 0 ∨ (0 ≤ b ∧ b + (v.length : Int) + (Gx v : Int) = x)) := by
 rw [ml] at hl
 unfold F12 Xjy; (try dsimp only)
 rw [i64_in _ (by omega)]
 by_cases c : x - (v.length : Int) < 0
 ·exact ⟨-1, (ct (decide_eq_true c)).trans rfl, .inl (by decide)⟩
 ·obtain ⟨b, hb, hb2⟩ := X6q k v x (by omega) hs k 0 (x - (v.length : Int)) (Nat.zero_le _) (by omega) (by omega)
  refine ⟨b, (cf (decide_eq_false c)).trans hb, ?_⟩
  rw [List.drop_zero] at hb2
  rcases hb2 with h | ⟨h1, h2⟩
  ·exact .inl h
  ·exact .inr ⟨h1, by omega⟩
theorem Xnf (q : Nat) (v : poL) (w : Ks) (p t : Int) (o : den A5) (hv : v.length ≤ maxLen) (hvs : ∀ p ∈ v, p.2.length ≤ maxLen ∧ ∀ s ∈ p.2, s.2.2.2.length ≤ maxLen) (hw : w.length ≤ maxLen) (hws : ∀ s ∈ w, s.2.length ≤ maxLen) (ho : o.2.2.2.length ≤ maxLen) (hb : BOk o.2.2.2) (hk : 1048576 < q + 4) : F6 (q + 4) v w p t o = some true := by
 unfold F6 X2h; (try dsimp only)
 obtain ⟨a, ha1, ha2⟩ := X7b (q + 4) v hv hvs hk
 refine (bs ha1).trans ?_
 by_cases c1 : a < 0
 ·exact (ct (decide_eq_true c1)).trans rfl
 refine (cf (decide_eq_false c1)).trans ?_
 obtain ⟨a0, a1, vl, vs⟩ : 0 ≤ a ∧ a ≤ 1048576 ∧ v.length ≤ 1048576 ∧ Fi v ≤ 1048576 := ha2.resolve_left c1
 obtain ⟨b, hb1, hb2⟩ := X0f (q + 4) w a ⟨a0, a1⟩ hw hws hk
 refine (bs hb1).trans ?_
 by_cases c2 : b < 0
 ·exact (ct (decide_eq_true c2)).trans rfl
 refine (cf (decide_eq_false c2)).trans ?_
 obtain ⟨b0, b1⟩ := hb2.resolve_left c2
 have wl : w.length ≤ 1048576 := by omega
 have ws : Gx w ≤ 1048576 := by omega
 refine (bs (Xpt (q + 4) o b ho ⟨b0, by omega⟩)).trans ?_
 by_cases c3 : ¬ (o.2.2.2.length : Int) ≤ b
 ·rw [if_neg c3]
  exact (ct (by decide)).trans rfl
 replace c3 := Decidable.not_not.1 c3
 rw [if_pos c3]
 refine (cf (decide_eq_false (by omega))).trans ?_
 have ol : o.2.2.2.length ≤ 1048576 := by omega
 have cv := X8v (q + 4) v vl vs hk
 have cw := Yb5 (q + 4) w wl ws hk
 have co := Xra (q + 4) o ol hk
 obtain ⟨r, t1, t2, t3⟩ := Xr7 q (v := v) (w := w) p t (o := o) vl wl ws hb hk
 have rl : r.1.length ≤ 1048576 := by have := t3.a; omega
 have rs : Fi r.1 ≤ 1048576 := by have := t3.sum; omega
 have et := Xds (q + 4) r.1 rl rs hk
 have ev := Xds (q + 4) v vl vs hk
 have ew := Xpz (q + 4) w wl ws hk
 have eo := Xd1 (q + 4) o ol hk
 have sv := X4i v
 have svp := Bp S7 v
 have sw := sumT w
 have swp := Bp Xge w
 have sr := X4i r.1
 have srp := Bp S7 r.1
 have mv := Xwp (q + 4) v 1 vl vs hk (by omega) (by omega)
 have mw := X83 (q + 4) w (1 + A7 wO v) wl ws hk (by omega) (by omega)
 have mo := Xst (q + 4) o.2.2.2 (1 + A7 wO v + A7 wT w) (by omega) (by omega) (by omega)
 have mr := Xwp (q + 4) r.1 1 rl rs hk (by omega) (by omega)
 have hr := Ydx (q + 4) r.1 1 rl rs hk (by omega) (by omega)
 have z0 : (r.2 != r.2) = false := bne_self_eq_false _
 have z1 : decide (1 + A7 wO r.1 < 0) = false := decide_eq_false (by omega)
 have z2 : (1 + A7 wO r.1 != 1 + A7 wO r.1) = false := bne_self_eq_false _
 refine (bs cv).trans ((bs cw).trans ((bs co).trans ((bs t1).trans ((bs cv).trans ((bs cw).trans ((bs co).trans ((bs t2).trans ((bs et).trans ((cf rfl).trans ((cf z0).trans ?_))))))))))
 refine (bs cv).trans ((bs ev).trans ((cf rfl).trans ((bs cw).trans ((bs ew).trans ((cf rfl).trans ((bs co).trans ((bs eo).trans ((cf rfl).trans ((bs mv).trans ((bs mw).trans ?_))))))))))
 refine (bs (show F41 (q + 4) o (1 + A7 wO v + A7 wT w) = _ from (bs mo).trans rfl)).trans ?_
 refine (cf (decide_eq_false (by show ¬ 1 + A7 wO v + A7 wT w + (o.2.2.2.length : Int) < 0; omega))).trans ?_
 refine (bs et).trans ((cf rfl).trans ((cf z0).trans ((bs mr).trans ((bs hr).trans ((cf z1).trans ((cf z2).trans ?_))))))
 exact (bs cv).trans ((bs cw).trans ((bs co).trans ((bs t2).trans ((bs et).trans ((cf rfl).trans ((cf z0).trans ((bs hr).trans ((cf z1).trans ((cf z2).trans rfl)))))))))
theorem Yaw (v : poL) (hv : Wf (.sl A2) v) (w : Ks) (hw : Wf (.sl sta) w) (p : Int) (hp : (Lit.int .i64 p).wf = true) (t : Int) (ht : (Lit.int .i64 t).wf = true) (o : den A5) (ho : Wf A5 o) :
  ∃ k, (∀ (v : poL) (w : Ks) (p t : Int) (o : den A5), Contract Tryz.prog 6 [.one (.l (.s .ro A2 v)), .one (.l (.s .ro sta w)), .one (.l (.v (.int .i64 p))), .one (.l (.v (.int .i64 t))), .agg ((Rf.enc .ro A5 o).map .l)] ⟨F6 k v w p t o, fun r => (.one (.v (.bool r)), [])⟩) ∧ F6 k v w p t o = some true :=
 ⟨1048600 + 4, fun v w p t o => (F6_q (1048600 + 4)).con (v, w, p, t, o, ()), Xnf 1048600 v w p t o hv.1 (fun s hs => ⟨(hv.2 s hs).2.1, fun m hm => ((hv.2 s hs).2.2 m hm).2.2.2.1⟩) hw.1 (fun s hs => (hw.2 s hs).2.1) ho.2.2.2.1 (BOk.of ho.2.2.2) (by omega)⟩
end Go.Proofs.YtdmepjjepogddaaGreat.Gn
end

section
namespace Go.Proofs.YtdmepjjepogddaaGreat.fnExactMailCarried
open Go Go.Proofs.YtdmepjjepogddaaGreat
noncomputable abbrev jP : Program := Tryz.pinned.checked.prog
noncomputable abbrev jn : Func := Tryz.f6
noncomputable abbrev js : ChangeSpec := Rows.fnExactMailCarriedSpec
noncomputable abbrev jc : OpenClaim := Rows.fnExactMailCarriedRow
theorem B2 {a b : Bool} (h : a = true) (g : b = true) : (a && b) = true := by rw [h, g]; rfl
theorem j0 : (jc.wf (OpenSpec.ofChange js)) = true := by kernel_rfl
theorem j1 : (laidOutB jP) = true := by kernel_rfl
theorem j2 : (mapsRowed jP) = true := by kernel_rfl
theorem j3 : (jn.params.all (jP.readableRec ·)) = true := by kernel_rfl
theorem j4 : (namedTie jP jc.named js.vars) = true := by kernel_rfl
theorem j5 : ((jc.stops == [])) = true := by kernel_rfl
theorem j6 : ((jP.stops == [])) = true := by kernel_rfl
theorem j7 : ((jc.knobs == [])) = true := by kernel_rfl
theorem j8 : ((jP.stopKnobs == [])) = true := by kernel_rfl
theorem j9 : ((jc.inPlace == jP.inPlace 6)) = true := by kernel_rfl
theorem j10 : ((jc.unfollowed == jP.unfollowed 6)) = true := by kernel_rfl
theorem j11 : ((jc.recurses == jP.recurses 6)) = true := by kernel_rfl
theorem j12 : ((jc.named == jP.varsNamed 6)) = true := by kernel_rfl
theorem j13 : ((jc.maps == (jn.params.toList ++ js.plain.varTypes jP).any (jP.mapsRec ·))) = true := by kernel_rfl
theorem j14 : ((jc.ifaces == (jn.params.toList ++ js.plain.varTypes jP).any (jP.ifacesRec ·))) = true := by kernel_rfl
theorem j15 : ((jc.mapsOut == jP.mapsAmong jn.resultTypes.toList)) = true := by kernel_rfl
theorem j16 : ((jc.loops == (jn.params.toList ++ js.plain.varTypes jP).any (jP.loopsFrom ·))) = true := by kernel_rfl
theorem j17 : ((jc.wideKeys == (jn.params.toList ++ js.plain.varTypes jP ++ jn.resultTypes.toList).any (jP.wideKeysFrom ·))) = true := by kernel_rfl
theorem j18 : (js.vars.all (jP.varReadable ·)) = true := by kernel_rfl
theorem j19 : (jn.resultTypes.all (fun t => jP.readableRec t && decide (t < jP.types.size))) = true := by kernel_rfl
theorem j20 : ((jc.ifacesOut == jn.resultTypes.toList.any (jP.ifacesRec ·))) = true := by kernel_rfl
theorem j21 : ((jc.loopsOut == jn.resultTypes.toList.any (jP.loopsFrom ·))) = true := by kernel_rfl
theorem j22 : ((jc.plainKeys == jP.plainKeys)) = true := by kernel_rfl
theorem j23 : (jc.shortTexts.isNone) = true := by kernel_rfl
theorem j24 : (jP.stopsHeard) = true := by kernel_rfl
theorem j25 : (jP.mayEnter) = true := by kernel_rfl
theorem j26 : ((jc.lifted == jP.liftsFinal)) = true := by kernel_rfl
theorem j27 : ((jP.make == some jc.make)) = true := by kernel_rfl
theorem j28 : ((jc.kinds == (if jc.domain.isEmpty then [] else jn.params.toList.map fun t => match jP.underlying t with | some (.int k) => some k | _ => none))) = true := by kernel_rfl
theorem j29 : ((jc.pinned == jc.pinnedBy)) = true := by kernel_rfl
theorem j30 : ((jc.veiled == (jn.params.toList ++ js.plain.varTypes jP ++ jn.resultTypes.toList).any (jP.veiledRec ·))) = true := by kernel_rfl
theorem j31 : (jc.veiledFits jP jn.params.toList (jn.params.toList ++ js.plain.varTypes jP ++ jn.resultTypes.toList)) = true := by kernel_rfl
end Go.Proofs.YtdmepjjepogddaaGreat.fnExactMailCarried
end
