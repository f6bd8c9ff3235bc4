/-
  What the proof of this row needs, part 2: the typed evaluator of the translated code, the functions that the law reaches as plain functions, and what they answer.
-/
import Derived.Lib.ConvBytes
import Derived.Laws.Small
import Derived.Laws.StructEq
import Derived.Laws.BytesArg
import Derived.Laws.Tables
import Derived.RangeFuncLeaves
import Derived.RangeFuncSeq
import Derived.OrdersIn
import Derived.OwnWalkIn
import Derived.Orders
import Derived.Test.YtdmepjjepogddaaGreatA1
section
set_option linter.unusedVariables false
set_option linter.unusedSimpArgs false
namespace Go.Rf
theorem Wc (a b : Mode) : (Gp a b).isOwn = true := by cases a <;> cases b <;> rfl
theorem Qp {a b : Mode} (h : Gp a b = .own) : a = .own ∧ b = .own := by cases a <;> cases b <;> simp_all [Gp]
structure RowsOk (w : World) (S : Nat → Prop) (e : Ty) (m : Mode) (l : List (den e)) (v : Value) (vss : List (List Value)) (bss : List (List Nat)) : Prop where
 a : vss.length = l.length
 b : bss.length = l.length
 hv : ∀ u ∈ vss, u.length = wd e
 el : ∀ (i : Nat) (x : den e) (u : List Value) (b' : List Nat), l[i]? = some x → vss[i]? = some u → bss[i]? = some b' → Rd w S e m.nest x u b'
 hd : ∃ ad c, v = .slice ad l.length c ∧ l.length ≤ c ∧ (((ad = none ∨ m.isOwn = false) ∧ l = [] ∧ c = 0) ∨ ∃ b o, ad = some ⟨b, o, none⟩ ∧ ∀ j u, vss.flatten[j]? = some u → cellAt w b (o + j) = some u)
section
variable {P : Program} {w : World} {g : Gh} {σ : St} {ts : Array Value} {H : Hand} {tab : Tab} {γ : Type} {r : γ}
theorem RowsOk.nil {S : Nat → Prop} {e : Ty} {m : Mode} : RowsOk w S e m [] (.slice none 0 0) [] [] :=
 ⟨rfl, rfl, by simp, by simp, none, 0, rfl, Nat.le_refl _, .inl ⟨.inl rfl, rfl, rfl⟩⟩
theorem RowsOk.imp {S S' : Nat → Prop} {e : Ty} {m : Mode} {l : List (den e)} {v : Value} {vss : List (List Value)} {bss : List (List Nat)} (h : RowsOk w S e m l v vss bss)
  (hS : ∀ b, S b → S' b) : RowsOk w S' e m l v vss bss :=
 ⟨h.a, h.b, h.hv, fun i x u b' h1 h2 h3 => (h.el i x u b' h1 h2 h3).imp hS fun _ _ => rfl, h.hd⟩
theorem L4 {S : Nat → Prop} {e : Ty} {m : Mode} {l : List (den e)} {v : Value} {bs : List Nat} (h : Rd w S (.sl e) m l [v] bs) (hnd : bs.Nodup) :
  ∃ vss bss, RowsOk w S e m l v vss bss ∧ (∀ q ∈ bss.flatten, q ∈ bs) ∧ bss.flatten.Nodup ∧
   (m.isOwn = true → ∀ b o c, v = .slice (some ⟨b, o, none⟩) l.length c → bs = b :: bss.flatten ∧ BlkOk w b (o + c * wd e)) ∧ (m = .rox → ∃ ad, v = .slice ad l.length l.length) := by
 obtain ⟨y, hy, hs⟩ := h
 simp only [List.cons.injEq, and_true] at hy
 subst hy
 obtain ⟨vss, bss, ad, c, hv, hc, hx, l1, l2, hvl, hel, hr⟩ := hs.rows
 refine ⟨vss, bss, ⟨l1, l2, hvl, hel, ad, c, hv, hc, ?_⟩, ?_, ?_, ?_, fun hm => ⟨ad, by rw [hv, hx hm]⟩⟩
 ·rcases hr with ⟨h1, h2, h3, _⟩ | ⟨b, o, h1, h2, _⟩
  ·exact .inl ⟨h1, h2, h3⟩
  ·exact .inr ⟨b, o, h1, h2⟩
 ·intro q hq
  rcases hr with ⟨_, h2, _, _⟩ | ⟨b, o, _, _, h3, h4⟩
  ·subst h2
   have : bss = [] := List.length_eq_zero_iff.1 l2
   subst this; cases hq
  ·cases hm : m.isOwn with
   | true => rw [(h3 hm).1]; exact List.mem_cons_of_mem _ hq
   | false => rw [(h4 hm).2.1] at hq; cases hq
 ·rcases hr with ⟨_, h2, _, _⟩ | ⟨b, o, _, _, h3, h4⟩
  ·subst h2
   have : bss = [] := List.length_eq_zero_iff.1 l2
   subst this; simp
  ·cases hm : m.isOwn with
   | true => rw [(h3 hm).1] at hnd; exact (List.nodup_cons.1 hnd).2
   | false => rw [(h4 hm).2.1]; simp
 ·intro hm b o c' he
  rcases hr with ⟨h1, _, _, _⟩ | ⟨b', o', h1, _, h3, h4⟩
  ·rcases h1 with h1 | h1
   ·rw [hv, h1] at he; simp at he
   ·rw [hm] at h1; cases h1
  ·rw [hv, h1] at he
   simp only [Value.slice.injEq, Option.some.injEq, Addr.mk.injEq, and_true, true_and] at he
   obtain ⟨⟨rfl, rfl⟩, rfl⟩ := he
   exact h3 hm
theorem Ur {t te : Nat} {f : TypeInfo} {zz : Value} {ty : TypeId} (hu : P.underlying t = some (.slice te)) (hf : P.info? te = some f) (hz : f.zero = some zz)
  {e : Ty} (hfs : f.size = wd e) (hzs : zz.cells.size = wd e)
  {S0 S1 : Nat → Prop} {m0 m1 : Mode} {l0 l1 : List (den e)} {u v : Value} {vss0 vss1 : List (List Value)} {bss0 bss1 : List (List Nat)}
  (r0 : RowsOk w S0 e m0 l0 u vss0 bss0) (r1 : RowsOk w S1 e m1 l1 v vss1 bss1) {c0 : Nat} {ad0 : Option Addr} (hu0 : u = .slice ad0 l0.length c0) (hneed : c0 < l0.length + l1.length)
  (heb : 1 ≤ f.bytes) (hb : (l0.length + l1.length) * f.bytes ≤ 140737488355328) :
  ∃ w' c zs, (Builtin.append_ #[t, t] ty #[u, v]).run P w = .ok (.slice (some ⟨w.heap.size, 0, none⟩) (l0 ++ l1).length c) w' ∧
   w'.heap = w.heap.push (.cells (vss0.flatten.toArray ++ vss1.flatten.toArray ++ zs) te) ∧ l0.length + l1.length ≤ c ∧ c * wd e ≤ (vss0.flatten.toArray ++ vss1.flatten.toArray ++ zs).size ∧ Io w w' := by
 obtain ⟨ad, c, hv0, hlc, hd0⟩ := r0.hd
 rw [hu0] at hv0
 simp only [Value.slice.injEq, true_and] at hv0
 obtain ⟨rfl, rfl⟩ := hv0
 obtain ⟨ad1, c1, rfl, hlc1, hd1⟩ := r1.hd
 have hn1 : 0 < l1.length := by omega
 have hsmall : (l0.length + l1.length) * 1 ≤ (l0.length + l1.length) * f.bytes := Nat.mul_le_mul_left _ heb
 rcases hd1 with ⟨_, h1, _⟩ | ⟨b1, o1, rfl, hl1⟩
 ·rw [h1] at hn1; simp at hn1
 have hnl : vss1.flatten.length = l1.length * f.size := by rw [Cr r1.hv, r1.a, hfs]
 have hload1 : ∀ j x, vss1.flatten[j]? = some x → w.cell? ((⟨b1, o1, none⟩ : Addr).add j) = some x := fun j x hx => by rw [Bh]; exact hl1 j x hx
 subst hu0
 rcases hd0 with ⟨_, hl0, rfl⟩ | ⟨b0, o0, rfl, hl0⟩
 ·subst hl0
  have hv0 : vss0 = [] := List.length_eq_zero_iff.1 r0.a
  subst hv0
  have hge := grownCap_ge w l1.length 0 te
  cases ad0 with
  | some a0 =>
   have hge := grownCap_ge w (0 + l1.length) 0 te
   refine ⟨w.drew.alloc (.cells (([] : List Value).toArray ++ vss1.flatten.toArray ++ Builtin.zeroCells zz.cells (grownCap w (0 + l1.length) 0 te - (0 + l1.length))) te),
    grownCap w (0 + l1.length) 0 te, Builtin.zeroCells zz.cells (grownCap w (0 + l1.length) 0 te - (0 + l1.length)), ?_, ?_, ?_, ?_, ⟨rfl, rfl, rfl⟩⟩
   ·simpa using run_append_grow (P := P) w t ty te f zz hu hf hz a0 0 0 [] (by simp) (fun j x hx => by simp at hx) ⟨b1, o1, none⟩ l1.length c1 vss1.flatten hnl hload1 (by omega)
     (by omega) (growslice_fits (by omega) (by simpa using hb))
   ·show (World.alloc _ _).heap = _
    simp [World.alloc, heap_drew]
   ·simpa using hge
   ·simp only [Array.size_append, List.size_toArray, size_zeroCells, hzs, hnl, hfs, List.length_nil, List.flatten_nil]
    simp only [Nat.zero_add] at hge ⊢
    rw [← Nat.add_mul]
    exact Nat.mul_le_mul_right _ (by omega)
  | none =>
   refine ⟨w.drew.alloc (.cells (vss1.flatten.toArray ++ Builtin.zeroCells zz.cells (grownCap w l1.length 0 te - l1.length)) te), grownCap w l1.length 0 te,
    Builtin.zeroCells zz.cells (grownCap w l1.length 0 te - l1.length), ?_, ?_, ?_, ?_, ⟨rfl, rfl, rfl⟩⟩
   ·simpa using run_append_nil (P := P) w t ty te f zz hu hf hz ⟨b1, o1, none⟩ l1.length c1 vss1.flatten hnl hload1 hn1 (by omega) (by simp at hb; omega)
   ·show (World.alloc _ _).heap = _
    simp [World.alloc, heap_drew]
   ·simpa using hge
   ·simp only [List.flatten_nil, Array.size_append, List.size_toArray, List.length_nil, size_zeroCells, hzs, hnl, hfs]
    rw [Nat.zero_add, ← Nat.add_mul]
    exact Nat.mul_le_mul_right _ (by omega)
 ·have hol : vss0.flatten.length = l0.length * f.size := by rw [Cr r0.hv, r0.a, hfs]
  have hload0 : ∀ j x, vss0.flatten[j]? = some x → w.cell? ((⟨b0, o0, none⟩ : Addr).add j) = some x := fun j x hx => by rw [Bh]; exact hl0 j x hx
  have hge := grownCap_ge w (l0.length + l1.length) c0 te
  refine ⟨w.drew.alloc (.cells (vss0.flatten.toArray ++ vss1.flatten.toArray ++ Builtin.zeroCells zz.cells (grownCap w (l0.length + l1.length) c0 te - (l0.length + l1.length))) te),
   grownCap w (l0.length + l1.length) c0 te, Builtin.zeroCells zz.cells (grownCap w (l0.length + l1.length) c0 te - (l0.length + l1.length)), ?_, ?_, ?_, ?_, ⟨rfl, rfl, rfl⟩⟩
  ·simpa using run_append_grow (P := P) w t ty te f zz hu hf hz ⟨b0, o0, none⟩ l0.length c0 vss0.flatten hol hload0 ⟨b1, o1, none⟩ l1.length c1 vss1.flatten hnl hload1 hneed
    (by omega) (growslice_fits hneed hb)
  ·show (World.alloc _ _).heap = _
   simp [World.alloc, heap_drew]
  ·exact hge
  ·simp only [Array.size_append, List.size_toArray, size_zeroCells, hzs, hnl, hol, hfs]
   rw [← Nat.add_mul, ← Nat.add_mul]
   exact Nat.mul_le_mul_right _ (by omega)
theorem K9 {t te : Nat} {f : TypeInfo} {ty : TypeId} (hu : P.underlying t = some (.slice te)) (hf : P.info? te = some f)
  {e : Ty} (hfs : f.size = wd e) {S1 : Nat → Prop} {m1 : Mode} {l1 : List (den e)} {v : Value} {vss1 : List (List Value)} {bss1 : List (List Nat)}
  (r1 : RowsOk w S1 e m1 l1 v vss1 bss1) {n0 c0 : Nat} {ad0 : Option Addr} (hroom : n0 + l1.length ≤ c0) {w' : World}
  (hst : ∀ b o, ad0 = some ⟨b, o, none⟩ → (storeCells ⟨b, o + n0 * wd e, none⟩ vss1.flatten 0).run P w = .ok () w') (hsp : ∀ a, ad0 = some a → a.spot = none) (hno : ad0 = none → w' = w) :
  (Builtin.append_ #[t, t] ty #[.slice ad0 n0 c0, v]).run P w = .ok (.slice ad0 (n0 + l1.length) c0) w' := by
 obtain ⟨ad1, c1, rfl, hlc1, hd1⟩ := r1.hd
 have hnl : vss1.flatten.length = l1.length * f.size := by rw [Cr r1.hv, r1.a, hfs]
 have hfirst : (Builtin.firstCells f.size l1.length (.slice ad1 l1.length c1)).run P w = .ok vss1.flatten.toArray w := by
  rcases hd1 with ⟨_, h1, _⟩ | ⟨b1, o1, rfl, hl1⟩
  ·have : vss1 = [] := List.length_eq_zero_iff.1 (by rw [r1.a, h1]; rfl)
   subst this
   cases ad1 with
   | none => simp [Builtin.firstCells]
   | some a1 => exact run_firstCells_some (P := P) w f.size l1.length a1 l1.length c1 [] hnl fun j x hx => by simp at hx
  ·exact run_firstCells_some (P := P) w f.size l1.length ⟨b1, o1, none⟩ l1.length c1 vss1.flatten hnl fun j x hx => by rw [Bh]; exact hl1 j x hx
 cases ad0 with
 | none =>
  rw [hno rfl]
  simp [Builtin.append_, run_underlying hu, sizeOf, typeInfo, hf, Builtin.lenOf, hroom, hfirst]
 | some a =>
  obtain ⟨b, o, sp⟩ := a
  have := hsp _ rfl
  simp only at this
  subst this
  have h1 := hst b o rfl
  rw [hfs] at hfirst
  simp [Builtin.append_, run_underlying hu, sizeOf, typeInfo, hf, Builtin.lenOf, hroom, hfirst, Bh, hfs, h1]
end
end Go.Rf
end

section
set_option linter.unusedVariables false
set_option linter.unusedSimpArgs false
namespace Go.Rf
theorem Hand.bs_append (H H' : Hand) : Hand.bs (H ++ H') = Hand.bs H ++ Hand.bs H' := by simp [Hand.bs]
theorem X65 {w : World} {S : Nat → Prop} : ∀ {t : Ty} {m : Mode} {x : den t} {vs : List Value} {bs : List Nat}, Rd w S t m x vs bs → ∀ v ∈ vs, v.oneCell' = true := by
 intro t
 induction t with
 | int k => rintro m x vs bs ⟨rfl, _⟩ v hv; simp at hv; subst hv; rfl
 | bool => rintro m x vs bs ⟨rfl, _⟩ v hv; simp at hv; subst hv; rfl
 | str => rintro m x vs bs ⟨rfl, _⟩ v hv; simp at hv; subst hv; rfl
 | sl e ih => rintro m x vs bs ⟨y, rfl, ad, c, rfl, _⟩ v hv; simp at hv; subst hv; rfl
 | pair a b iha ihb =>
  rintro m x vs bs ⟨v1, v2, b1, b2, rfl, rfl, h1, h2⟩ v hv
  exact (List.mem_append.1 hv).elim (iha h1 v) (ihb h2 v)
section
variable {P : Program} {w : World} {g : Gh} {σ : St} {ts : Array Value} {H : Hand} {tab : Tab} {γ : Type} {r : γ}
theorem RowsOk.one {S : Nat → Prop} {e : Ty} {m : Mode} {l : List (den e)} {v : Value} {vss : List (List Value)} {bss : List (List Nat)} (h : RowsOk w S e m l v vss bss) :
  ∀ u ∈ vss.flatten, u.oneCell' = true := by
 intro u hu
 obtain ⟨vs, hvs, hu⟩ := List.mem_flatten.1 hu
 obtain ⟨i, hi, rfl⟩ := List.mem_iff_getElem.1 hvs
 have h1 : i < l.length := by rw [← h.a]; exact hi
 have h2 : i < bss.length := by rw [h.b]; exact h1
 exact X65 (h.el i l[i] vss[i] bss[i] (List.getElem?_eq_getElem h1) (List.getElem?_eq_getElem hi) (List.getElem?_eq_getElem h2)) u hu
theorem Xr0 (h : Rel w g σ ts []) {e : Ty} {x : A} {y : Value} (hx : AR w g σ.mem x y) {K : Mode × List (den e) → St → Option γ} (hr : (Xm8 e x).run tab σ K = some r) :
  ∃ m l H1 g1 σ1 mm vss bss, K (m, l) σ1 = some r ∧ Rel w g1 σ1 ts H1 ∧ Mv w g σ [] w g1 σ1 H1 ∧ RowsOk w g1.S e mm l y vss bss ∧
   (∀ q ∈ bss.flatten, q ∈ H1.bs) ∧ bss.flatten.Nodup ∧ (m = .own → mm = .own ∨ Bc e = false) := by
 cases x with
 | agg xs => simp [Xm8, Pg.run] at hr
 | tup xs => simp [Xm8, Pg.run] at hr
 | one x =>
  simp only [Xm8, run_bind] at hr
  cases hs : Bc e with
  | true =>
   rw [hs] at hr
   simp only [cond_true] at hr
   obtain ⟨x', bs, g1, σ1, hr, h1, m1⟩ := Ca h hx hr
   have hh := h1.hand _ List.mem_cons_self
   have hnd := h1.hnd
   rw [Hand.bs_cons] at hnd
   simp only [Hand.bs, List.flatMap_nil, List.append_nil] at hnd
   split at hr
   ·obtain ⟨rfl, _⟩ := (hh : y = _ ∧ _)
    exact ⟨_, _, _, g1, σ1, .own, [], [], hr, h1, m1, RowsOk.nil, by simp, by simp, fun _ => .inl rfl⟩
   ·rename_i m t l
    split at hr
    ·rename_i ht
     subst ht
     simp only [hs, cond_true] at hr
     obtain ⟨vss, bss, r1, r2, r3, _, _⟩ := L4 (hh : Rd w g1.S (.sl t) m l [y] bs) hnd
     exact ⟨_, _, _, g1, σ1, m, vss, bss, hr, h1, m1, r1, fun q hq => by rw [Hand.bs_cons]; exact List.mem_append_left _ (r2 q hq), r3, fun h => .inl h⟩
    ·simp [Pg.run] at hr
   ·simp [Pg.run] at hr
  | false =>
   rw [hs] at hr
   simp only [cond_false] at hr
   obtain ⟨x', hr, hx'⟩ := Ns h hx hr
   rcases hx' with ⟨z, rfl, hz⟩ | ⟨m, t, l, rfl, hrd⟩
   ·split at hr
    ·rename_i heq
     simp only [Leaf.v.injEq] at heq
     rw [heq] at hz
     subst hz
     exact ⟨_, _, [], g, σ, .own, [], [], hr, h, Mv.refl _ _ _ _, RowsOk.nil, by simp, by simp, fun _ => .inl rfl⟩
    ·rename_i heq; simp at heq
    ·simp [Pg.run] at hr
   ·simp only at hr
    split at hr
    ·rename_i ht
     subst ht
     obtain ⟨vss, bss, r1, r2, r3, _, _⟩ := L4 hrd (by simp)
     refine ⟨_, _, [], g, σ, m, vss, bss, hr, h, Mv.refl _ _ _ _, ⟨r1.a, r1.b, r1.hv, fun i x u b' h1 h2 h3 => ?_, r1.hd⟩, fun q hq => (by have := r2 q hq; simp at this), r3, fun _ => .inr rfl⟩
     obtain ⟨rfl, h5⟩ := Xg4 (S' := g.S) (m' := m.nest) hs (r1.el i x u b' h1 h2 h3)
     exact h5
    ·simp [Pg.run] at hr
theorem Xjy (h : Rel w g σ ts H) {e : Ty} {x : Leaf} {y : Value} (hx : LfR w g σ.mem x y []) {K : Mode × List (den e) → St → Option γ} (hr : (Xp9 e x).run tab σ K = some r) :
  ∃ m l H0 g1 σ1 mm vss bss, K (m, l) σ1 = some r ∧ Rel w g1 σ1 ts (H0 ++ H) ∧ Mv w g σ H w g1 σ1 (H0 ++ H) ∧ RowsOk w g1.S e mm l y vss bss ∧
   (∀ q ∈ bss.flatten, q ∈ H0.bs) ∧ bss.flatten.Nodup ∧
   (m.isOwn = true → mm = m ∧ ∀ b o c, y = .slice (some ⟨b, o, none⟩) l.length c → H0.bs = b :: bss.flatten ∧ BlkOk w b (o + c * wd e)) ∧
   (m.isOwn = false → ∃ ad, y = .slice ad l.length l.length) := by
 unfold Xp9 at hr
 split at hr
 ·obtain ⟨rfl, _⟩ := (hx : y = _ ∧ _)
  exact ⟨_, _, [], g, σ, .own, [], [], hr, h, Mv.refl _ _ _ _, RowsOk.nil, by simp, by simp, fun _ => ⟨rfl, fun b o c he => by simp at he⟩, fun hf => by simp [Mode.isOwn] at hf⟩
 ·rename_i t l
  split at hr
  ·rename_i ht
   subst ht
   obtain ⟨vss, bss, r1, r2, r3, _, r5⟩ := L4 (hx : Rd w g.S (.sl t) .rox l [y] []) (by simp)
   exact ⟨_, _, [], g, σ, .rox, vss, bss, hr, h, Mv.refl _ _ _ _, r1, fun q hq => (by have := r2 q hq; simp at this), r3, fun hf => by simp [Mode.isOwn] at hf, fun _ => r5 rfl⟩
  ·simp [Pg.run] at hr
 ·rename_i k v0 v1 wi
  rw [run_bind] at hr
  obtain ⟨x', bs, g1, σ1, hr, h1, m1, m, t, l, rfl⟩ := Fm h hx.2 hr
  simp only at hr
  cases hm : m.isOwn with
  | false => rw [hm] at hr; simp [Pg.run] at hr
  | true =>
   rw [hm] at hr
   simp only [cond_true] at hr
   split at hr
   ·rename_i ht
    subst ht
    have hh := h1.hand _ List.mem_cons_self
    have hnd := h1.hnd
    rw [Hand.bs_cons] at hnd
    obtain ⟨vss, bss, r1, r2, r3, r4, _⟩ := L4 (hh : Rd w g1.S (.sl t) m l [y] bs) (List.nodup_append.1 hnd).1
    refine ⟨_, _, [(.s m t l, y, bs)], g1, σ1, m, vss, bss, hr, h1, m1, r1, fun q hq => by rw [Hand.bs_cons]; exact List.mem_append_left _ (r2 q hq), r3, fun _ => ⟨rfl, fun b o c he => ?_⟩, fun hf => ?_⟩
    ·obtain ⟨h5, h6⟩ := r4 hm b o c he
     exact ⟨by simp only [Hand.bs, List.flatMap_cons, List.flatMap_nil, List.append_nil]; exact h5, h6⟩
    ·rw [show m.isOwn = true from hm] at hf; simp at hf
   ·simp [Pg.run] at hr
 ·rename_i k i c v0 v1
  rw [run_bind] at hr
  obtain ⟨m, t, l, bs, g1, σ1, hr, h1, m1⟩ := Yi h hx.2 hr
  simp only at hr
  cases hm : m.isOwn with
  | false => rw [hm] at hr; simp [Pg.run] at hr
  | true =>
   rw [hm] at hr
   simp only [cond_true] at hr
   split at hr
   ·rename_i ht
    subst ht
    have hh := h1.hand _ List.mem_cons_self
    have hnd := h1.hnd
    rw [Hand.bs_cons] at hnd
    obtain ⟨vss, bss, r1, r2, r3, r4, _⟩ := L4 (hh : Rd w g1.S (.sl t) m l [y] bs) (List.nodup_append.1 hnd).1
    refine ⟨_, _, [(.s m t l, y, bs)], g1, σ1, m, vss, bss, hr, h1, m1, r1, fun q hq => by rw [Hand.bs_cons]; exact List.mem_append_left _ (r2 q hq), r3, fun _ => ⟨rfl, fun b o c he => ?_⟩, fun hf => ?_⟩
    ·obtain ⟨h5, h6⟩ := r4 hm b o c he
     exact ⟨by simp only [Hand.bs, List.flatMap_cons, List.flatMap_nil, List.append_nil]; exact h5, h6⟩
    ·rw [show m.isOwn = true from hm] at hf; simp at hf
   ·simp [Pg.run] at hr
 ·simp [Pg.run] at hr
theorem Xap {E : Env} (hE : ∀ t i, E.ty t = some i → TyOk P t i) (h : Rel w g σ ts []) {at0 at1 d : Nat} {x y : A} {u v : Value} (hx : AR w g σ.mem x u) (hy : AR w g σ.mem y v) (ty : TypeId)
  {K : A → St → Option γ} (hr : (Ys E at0 at1 d x y).run tab σ K = some r) :
  ∃ z q w' g' σ', K z σ' = some r ∧ (Builtin.append_ #[at0, at1] ty #[u, v]).run P w = .ok q w' ∧ Rel w' g' σ' ts [] ∧ AR w' g' σ'.mem z q ∧ Mv w g σ [] w' g' σ' [] ∧ Frm w g w' := by
 unfold Ys at hr
 split at hr
 ·rename_i e eb hty
  rw [run_bind] at hr
  obtain ⟨hl, hr2⟩ := An hr
  clear hr
  have hr := hr2
  clear hr2
  simp only [Bool.and_eq_true] at hl
  have heb : 1 ≤ eb := Nat.le_of_ble_eq_true hl.1
  have hat : at0 = at1 := Nat.eq_of_beq_eq_true hl.2
  subst hat
  obtain ⟨te, f, hu, hf, hfs, hfb, zz, hz, hzc⟩ := (hE at0 _ hty).sl e rfl rfl
  simp only at hfb
  have hzs : zz.cells.size = wd e := by rw [← Array.length_toList, hzc, Lu]
  rw [run_bind] at hr
  obtain ⟨x0, rfl, hr, hx0⟩ := U5 hx hr
  rw [run_bind] at hr
  obtain ⟨m1, l1, H1, g1, σ1, mm1, vss1, bss1, hr, R1, M1, rows1, sub1, nd1, own1⟩ := Xr0 h hy hr
  simp only [run_bind] at hr
  obtain ⟨m0, l0, H0, g2, σ2, mm0, vss0, bss0, hr, R2, M2, rows0, sub0, nd0, own0, ro0⟩ := Xjy R1 (hx0.step M1.st fun b hb => rfl) hr
  simp only [run_bind] at hr
  have hmust : m0.isOwn = true ∨ (m0.isOwn = false ∧ 0 < l1.length) := by
   cases hm : m0.isOwn with
   | true => exact .inl rfl
   | false =>
    rw [hm] at hr
    simp only [cond_false] at hr
    obtain ⟨hb, _⟩ := Cm hr
    exact .inr ⟨rfl, by simpa using hb⟩
  have hr : (Pg.br (decide ((l0.length + l1.length) * eb ≤ 140737488355328))
    ((Co (G3 * d) (.s (Gp (cond m0.isOwn m0 (cond (Bc e) .sown .own)) m1) e (l0 ++ l1))).bind Db) .fail).run tab σ2 K = some r := by
   cases hm : m0.isOwn with
   | true => rw [hm] at hr; exact hr
   | false =>
    rw [hm] at hr
    simp only [cond_false] at hr
    exact (Cm hr).2
  rcases E9 hr with ⟨hb, hr⟩ | ⟨_, hr⟩
  ·simp only [decide_eq_true_eq] at hb
   rw [run_bind] at hr
   have rows1 := rows1.imp M2.st.S
   generalize hMM : Gp (cond m0.isOwn m0 (cond (Bc e) .sown .own)) m1 = MM at hr
   have hM : MM.isOwn = true := by rw [← hMM]; exact Wc _ _
   have hc0 : MM = .own → mm0 = .own ∨ Bc e = false := by
    intro he
    rw [he] at hMM
    obtain ⟨h1, _⟩ := Qp hMM
    cases hm : m0.isOwn with
    | true => rw [hm] at h1; simp only [cond_true] at h1; exact .inl ((own0 hm).1.trans h1)
    | false =>
     rw [hm] at h1
     cases hs : Bc e with
     | true => rw [hs] at h1; simp at h1
     | false => exact .inr rfl
   have hc1 : MM = .own → mm1 = .own ∨ Bc e = false := by
    intro he
    rw [he] at hMM
    exact own1 (Qp hMM).2
   have hndH := R2.hnd
   rw [Hand.bs_append] at hndH
   obtain ⟨n1, n2, n3⟩ := List.nodup_append.1 hndH
   have hsub : ∀ b ∈ (bss0 ++ bss1).flatten, b ∈ Hand.bs (H0 ++ H1) := by
    intro b hb
    rw [List.flatten_append] at hb
    rw [Hand.bs_append]
    rcases List.mem_append.1 hb with hb | hb
    ·exact List.mem_append_left _ (sub0 b hb)
    ·exact List.mem_append_right _ (sub1 b hb)
   have hnd : (bss0 ++ bss1).flatten.Nodup := by
    rw [List.flatten_append]
    exact List.nodup_append.2 ⟨nd0, nd1, fun a ha b hb => n3 a (sub0 a ha) b (sub1 b hb)⟩
   have Mtot := M1.trans M2
   obtain ⟨ad0, c0, hu0, hlc0, hd0⟩ := rows0.hd
   by_cases hneed : c0 < l0.length + l1.length
   ·obtain ⟨w', c, zs, hrun, hheap, hle, hsz, hio⟩ := Ur (P := P) (ty := ty) hu hf hz hfs hzs rows0 rows1 hu0 hneed (by omega) (by rw [hfb]; exact hb)
    obtain ⟨g3, bs', R3, M3, _, _⟩ := Xa2 R2 rows0.a rows1.a rows0.b rows1.b rows0.hv rows1.hv rows0.el rows1.el hM hc0 hc1 hsub hnd hheap hio hle hsz
    obtain ⟨z, g4, σ4, hr, R4, M4, hz4, _, _⟩ := B3 R3 hr
    exact ⟨_, _, w', g4, σ4, hr, hrun, R4, hz4, (Mtot.trans M3).trans M4, Frm.push hheap⟩
   ·have hroom : l0.length + l1.length ≤ c0 := by omega
    rcases hd0 with ⟨h0, h1, rfl⟩ | ⟨b, o, rfl, hl0⟩
    ·have h2 : l1 = [] := List.length_eq_zero_iff.1 (by omega)
     obtain rfl : ad0 = none := by
      rcases h0 with h0 | h0
      ·exact h0
      ·rcases hmust with hm | ⟨_, hp⟩
       ·rw [(own0 hm).1, hm] at h0; cases h0
       ·rw [h2] at hp; simp at hp
     subst h1; subst h2
     have hrun := K9 (P := P) (ty := ty) (w' := w) (ad0 := none) hu hf hfs rows1 hroom (fun b o he => by simp at he) (fun a he => by simp at he) (fun _ => rfl)
     obtain ⟨R3, M3⟩ := R2.rehandW (w' := w) (H' := [(.s MM e ([] ++ []), .slice none 0 0, [])]) (fun _ _ _ => rfl) (Nat.le_refl _) (Io.refl _) (by simp [Hand.bs]) (by simp [Hand.bs])
      (by
       intro x hx
       have hx : x = _ := List.mem_singleton.1 hx
       subst hx
       exact ⟨_, rfl, none, 0, rfl, Nat.le_refl _, fun _ => rfl, .inl ⟨.inl rfl, rfl, rfl, rfl⟩⟩)
     obtain ⟨z, g4, σ4, hr, R4, M4, hz4, _, _⟩ := B3 R3 hr
     refine ⟨_, _, w, g4, σ4, hr, ?_, R4, hz4, (Mtot.trans M3).trans M4, Frm.refl _ _⟩
     rw [hu0]; exact hrun
    ·have hm : m0.isOwn = true := by
      rcases hmust with hm | ⟨hm, hp⟩
      ·exact hm
      ·obtain ⟨ad, he⟩ := ro0 hm
       rw [hu0] at he
       simp only [Value.slice.injEq] at he
       omega
     obtain ⟨hHb, hblk⟩ := (own0 hm).2 b o c0 hu0
     obtain ⟨w', g3, bs', hst, R3, M3, hq⟩ := Xfa (P := P) R2 rows0.a rows1.a rows0.b rows1.b rows0.hv rows1.hv rows0.el rows1.el hM hc0 hc1
      (by
       intro q hq
       rcases List.mem_cons.1 hq with rfl | hq
       ·rw [Hand.bs_append, hHb]; simp
       ·exact hsub q hq)
      (by
       refine List.nodup_cons.2 ⟨fun hq => ?_, hnd⟩
       rw [List.flatten_append] at hq
       rw [hHb] at n1 n3
       rcases List.mem_append.1 hq with hq | hq
       ·exact (List.nodup_cons.1 n1).1 hq
       ·exact n3 b (by simp) b (sub1 b hq) rfl)
      hl0 hblk hroom rows1.one
     have hrun := K9 (P := P) (ty := ty) (w' := w') (ad0 := some ⟨b, o, none⟩) hu hf hfs rows1 hroom (fun b' o' he => by
       simp only [Option.some.injEq, Addr.mk.injEq, and_true] at he
       obtain ⟨rfl, rfl⟩ := he
       exact hst) (fun a he => by simp at he; subst he; rfl) (fun he => by simp at he)
     obtain ⟨z, g4, σ4, hr, R4, M4, hz4, _, _⟩ := B3 R3 hr
     refine ⟨_, .slice (some ⟨b, o, none⟩) (l0.length + l1.length) c0, w', g4, σ4, hr, ?_, R4, ?_, (Mtot.trans M3).trans M4, ?_⟩
     ·rw [hu0]; exact hrun
     ·rw [List.length_append] at hz4; exact hz4
     ·intro q hlt hown
      refine .inl (hq q ?_).symm
      rintro rfl
      rcases Mtot.own q (.inr (by rw [Hand.bs_append, hHb]; simp)) with h5 | h5
      ·exact hown h5
      ·omega
  ·simp [Pg.run] at hr
 ·simp [Pg.run] at hr
theorem Z7 {t u te : Nat} {f : TypeInfo} {zz : Value} {ty : TypeId} (ht : P.underlying t = some (.slice te)) (hu : P.underlying u = some (.int .i64)) (hi : P.info? te = some f) (hz : f.zero = some zz)
  {n : Int} (h0 : 0 < n) (heb : 1 ≤ f.bytes) (hb : n * f.bytes ≤ 140737488355328) (hsz : f.size ≠ 0) :
  (Builtin.append_ #[t, u] ty #[.slice none 0 0, .int .i64 n]).run P w =
   .ok (.slice (some ⟨w.heap.size, 0, none⟩) n.toNat (grownCap w n.toNat 0 te)) (w.drew.alloc (.cells (Builtin.zeroCells zz.cells n.toNat ++ Builtin.zeroCells zz.cells (grownCap w n.toNat 0 te - n.toNat)) te)) := by
 have h1 : n * 1 ≤ n * (f.bytes : Int) := Int.mul_le_mul_of_nonneg_left (by omega) (by omega)
 have hw : IntKind.i64.wrap n = n := by
  simp only [IntKind.wrap, IntKind.bits, IntKind.signed, if_true]
  have : n % 18446744073709551616 = n := Int.emod_eq_of_lt (by omega) (by omega)
  simp [this]; omega
 have hn : n.toNat ≠ 0 := by omega
 have hneg : ¬ n < 0 := by omega
 have hle0 : ¬ n ≤ 0 := by omega
 have hmax : ¬ (9223372036854775807 < max n 0) := by omega
 have hns : n.toNat * f.size ≠ 0 := Nat.mul_ne_zero hn hsz
 have hbig : ¬ (281474976710656 < n * (f.bytes : Int)) := by omega
 have h63' : ¬ (9223372036854775807 < ((n.toNat : Nat) : Int)) := by omega
 have h48' : ¬ (281474976710656 < Builtin.nextslicecap n.toNat 0 * f.bytes) := by
  rw [nextslicecap_zero (by omega)]
  have : ((n.toNat * f.bytes : Nat) : Int) = n * (f.bytes : Int) := by rw [Int.natCast_mul, Int.toNat_of_nonneg (by omega)]
  omega
 simp [Builtin.append_, run_underlying ht, run_underlying hu, sizeOf, typeInfo, zeroValue, hi, hz, hw, hneg, hbig, hn, h63', h48', hsz, hle0, hmax, hns, Question.forced, run_firstCells_none, Go.newRow, grownCap, asInt, asIntOf]
theorem Xbo {E : Env} (hE : ∀ t i, E.ty t = some i → TyOk P t i) (h : Rel w g σ ts []) {at0 at1 d : Nat} {y : A} {v : Value} (hy : AR w g σ.mem y v) (ty : TypeId)
  {K : A → St → Option γ} (hr : (Xk E at0 at1 d y).run tab σ K = some r) :
  ∃ z q w' g' σ', K z σ' = some r ∧ (Builtin.append_ #[at0, at1] ty #[.slice none 0 0, v]).run P w = .ok q w' ∧ Rel w' g' σ' ts [] ∧ AR w' g' σ'.mem z q ∧ Mv w g σ [] w' g' σ' [] ∧ Frm w g w' := by
 unfold Xk at hr
 split at hr
 ·rename_i e eb eb1 n hty hty1
  rw [run_bind] at hr
  obtain ⟨heb, hr⟩ := An hr
  have heb : 1 ≤ eb := Nat.le_of_ble_eq_true heb
  rcases E9 hr with ⟨hb, hr2⟩ | ⟨_, hr2⟩
  ·clear hr
   simp only [Bool.and_eq_true, decide_eq_true_eq] at hb
   obtain ⟨h0, hle⟩ := hb
   obtain ⟨te, f, hu, hf, hfs, hfb, zz, hz, hzc⟩ := (hE at0 _ hty).sl e rfl rfl
   simp only at hfb
   obtain ⟨rfl, _⟩ := (hy : v = _ ∧ _)
   have hpos : wd e ≠ 0 := by have := X4 e; omega
   have hrun := Z7 (P := P) (w := w) (ty := ty) hu ((hE at1 _ hty1).int .i64 rfl rfl) hf hz h0 (by omega) (by rw [hfb]; exact hle) (by rw [hfs]; exact hpos)
   have hzs : zz.cells.size = wd e := by rw [← Array.length_toList, hzc, Lu]
   have hge := grownCap_ge w n.toNat 0 te
   have hfr := Nt (m := .own) (t := e) (l := List.replicate n.toNat (Be e)) (c := grownCap w n.toNat 0 te) (bss := List.replicate n.toNat []) h
    (w' := w.drew.alloc (.cells (Builtin.zeroCells zz.cells n.toNat ++ Builtin.zeroCells zz.cells (grownCap w n.toNat 0 te - n.toNat)) te)) (cs := Builtin.zeroCells zz.cells n.toNat ++ Builtin.zeroCells zz.cells (grownCap w n.toNat 0 te - n.toNat)) (te := te)
    (by simp [World.alloc, heap_drew]) ⟨rfl, rfl, rfl⟩ rfl (by simpa using hge) (by
     simp only [Array.size_append, size_zeroCells, hzs]
     rw [← Nat.add_mul]
     exact Nat.mul_le_mul_right _ (by omega))
    (by simp) (by simp) (by simp) (by
     intro i x b' hx hb'
     have hi : i < n.toNat := by have := (List.getElem?_eq_some_iff.1 hx).1; simpa using this
     rw [List.getElem?_replicate, if_pos hi] at hx hb'
     cases hx; cases hb'
     refine ⟨zv e, Lu e, fun j hj => ?_, Rk e _⟩
     have hlt : i * wd e + j < n.toNat * wd e := by
      have := Nat.mul_le_mul_right (wd e) (show i + 1 ≤ n.toNat from hi)
      rw [Nat.add_mul, Nat.one_mul] at this
      omega
     have hmod : (i * wd e + j) % zz.cells.size = j := by rw [hzs, Nat.mul_comm, Nat.mul_add_mod]; exact Nat.mod_eq_of_lt hj
     have hjz : j < zz.cells.size := by omega
     rw [Array.getElem?_append_left (by rw [size_zeroCells, hzs]; exact hlt)]
     simp only [Builtin.zeroCells, Array.getElem?_map]
     rw [Array.getElem?_range, if_pos (by rw [hzs]; exact hlt)]
     simp only [Option.map_some, hmod, getElem!_pos zz.cells j hjz]
     rw [← hzc, Array.getElem?_toList, Array.getElem?_eq_getElem hjz])
   obtain ⟨g1, h1, m1, _, _⟩ := hfr
   rw [run_bind] at hr2
   obtain ⟨z', g2, σ2, hr, h2, m2, hl, _, _⟩ := B3 h1 hr2
   refine ⟨_, _, _, g2, σ2, hr, hrun, h2, ?_, m1.trans m2, Frm.push (cs := Builtin.zeroCells zz.cells n.toNat ++ Builtin.zeroCells zz.cells (grownCap w n.toNat 0 te - n.toNat)) (te := te) (by simp [World.alloc, heap_drew])⟩
   have : (List.replicate n.toNat (Be e)).length = n.toNat := by simp
   rw [this] at hl
   exact hl
  ·simp [Pg.run] at hr2
 ·simp [Pg.run] at hr
end
end Go.Rf
end

section
set_option linter.unusedVariables false
set_option linter.unusedSimpArgs false
namespace Go.Rf
def encV : (t : Ty) → den t → List Value
 | .int k, n => [.int k n]
 | .bool, b => [.bool b]
 | .str, s => [.string s]
 | .sl _, _ => []
 | .pair a b, x => encV a x.1 ++ encV b x.2
structure EqOk (P : Program) (t : Nat) (ty : Ty) : Prop where
 guard : P.eqGuardType P.depth t = false
 eq : ∀ (w : World) (a b : den ty), (Op.equal t (.agg (encV ty a).toArray) (.agg (encV ty b).toArray)).run P w = .ok (eqD ty a b) w
theorem Xjd {m : Mode} : ∀ {t : Ty} {cs r : List Leaf} {x : den t}, N8 m t cs = some (x, r) → Bc t = false → cs = (encV t x).map .v ++ r := by
 intro t
 induction t with
 | int k =>
  intro cs r x h _
  obtain ⟨c, rfl, hf⟩ := Bp h
  unfold Xlm at hf
  split at hf <;> try (simp at hf; done)
  rename_i k' n
  cases hk : ikb k k' with
  | false => rw [hk] at hf; simp at hf
  | true =>
   rw [hk] at hf; simp only [cond_true, Option.some.injEq] at hf
   subst hf
   rw [L5 hk]; rfl
 | bool =>
  intro cs r x h _
  obtain ⟨c, rfl, hf⟩ := Bp h
  unfold Xj6 at hf
  split at hf <;> try (simp at hf; done)
  simp only [Option.some.injEq] at hf
  subst hf; rfl
 | str =>
  intro cs r x h _
  obtain ⟨c, rfl, hf⟩ := Bp h
  unfold Xk1 at hf
  split at hf <;> try (simp at hf; done)
  simp only [Option.some.injEq] at hf
  subst hf; rfl
 | sl e ih => intro cs r x h hs; simp [Bc] at hs
 | pair a b iha ihb =>
  intro cs r x h hs
  simp only [Bc, Bool.or_eq_false_iff] at hs
  simp only [N8] at h
  split at h <;> try (simp at h; done)
  rename_i y r1 h1
  split at h <;> try (simp at h; done)
  rename_i z r2 h2
  simp only [Option.some.injEq, Prod.mk.injEq] at h
  obtain ⟨rfl, rfl⟩ := h
  rw [iha h1 hs.1, ihb h2 hs.2]
  simp [encV]
theorem Xaa {m : Mode} {t : Ty} {cs : List Leaf} {x : den t} (h : M0 m t cs = some x) (hs : Bc t = false) : cs = (encV t x).map .v := by
 unfold M0 at h
 split at h <;> try (simp at h; done)
 rename_i y hd
 simp only [Option.some.injEq] at h
 subst h
 simpa using Xjd hd hs
section
variable {P : Program} {w : World} {g : Gh} {σ : St} {ts : Array Value} {H : Hand} {tab : Tab} {γ : Type} {r : γ}
theorem Xbs {mem : Mem} {vs us : List Value} (h : LsR w g mem (vs.map .v) us) : us = vs := by
 apply List.ext_getElem?
 intro i
 by_cases hi : i < vs.length
 ·have hlen := h.1
  simp only [List.length_map] at hlen
  have hi' : i < us.length := by omega
  have := h.2 i (.v vs[i]) us[i] (by simp [hi]) (List.getElem?_eq_getElem hi')
  rw [List.getElem?_eq_getElem hi, List.getElem?_eq_getElem hi', this.1]
 ·have hlen := h.1
  simp only [List.length_map] at hlen
  rw [List.getElem?_eq_none (by omega), List.getElem?_eq_none (by omega)]
theorem Xn4 {H : Hand} (h : Rel w g σ ts H) {x : Leaf} {y : Value} (hx : LfR w g σ.mem x y []) {K : Option Nat → St → Option γ} (hr : (X72 x).run tab σ K = some r) :
  ∃ o, K o σ = some r ∧ ∀ n, o = some n → ∃ ad c, y = .slice ad n c := by
 unfold X72 at hr
 split at hr
 ·rename_i k v0 v1
  rw [run_bind] at hr
  obtain ⟨e, he, hr1⟩ := A2 hr
  obtain ⟨ec, ev0, ev1⟩ := e
  obtain ⟨_, _, e2, he2, _, _, hc⟩ := hx
  simp only [Ib] at he2
  rw [he] at he2; cases he2
  cases ec with
  | q m t l p =>
   simp only [run_bind] at hr1
   obtain ⟨hv, hr2⟩ := An hr1
   simp only [Pg.run] at hr2
   refine ⟨_, hr2, fun n hn => ?_⟩
   simp only [Option.some.injEq] at hn
   subst hn
   obtain ⟨_, t', q, hh, r1, r2, r3⟩ := hc (by simpa [Ii] using hv)
   simp only [hdrAt, Option.some.injEq] at r2
   obtain ⟨ad, cp, hy, _⟩ := (h.mem k _ he : SlR w g.S (wd t) m none (fun z vs bs => QlR w g.S t m.nest z vs bs) (Ec l p) (g.hv k) (g.bl k))
   rw [Bj] at hy
   have r3 : y = hh := r3
   exact ⟨ad, cp, by rw [r3, ← r2, hy]⟩
  | _ => exact ⟨none, hr1, fun n hn => by cases hn⟩
 ·exact ⟨none, hr, fun n hn => by cases hn⟩
theorem Xt7 {E : Env} (hE : ∀ t i, E.ty t = some i → TyOk P t i) (h : Rel w g σ ts []) {t : Nat} {x : A} {y : Value} (hx : AR w g σ.mem x y) (ty : TypeId)
  {K : A → St → Option γ} (hr : (X51 E t x).run tab σ K = some r) : ∃ z q, K z σ = some r ∧ (Builtin.len_ #[t] ty #[y]).run P w = .ok q w ∧ AR w g σ.mem z q := by
 unfold X51 at hr
 split at hr
 ·rename_i eb s hty
  obtain ⟨rfl, _⟩ := (hx : y = _ ∧ _)
  exact ⟨_, _, hr, by simp [Builtin.len_, Ao ((hE t _ hty).str rfl rfl)]; rfl, rfl, rfl⟩
 ·rename_i e eb y' hty
  obtain ⟨te, f, hu, _⟩ := (hE t _ hty).sl e rfl rfl
  rw [run_bind] at hr
  obtain ⟨o, hr, ho⟩ := Xn4 h hx hr
  cases o with
  | some n =>
   obtain ⟨ad, c, rfl⟩ := ho n rfl
   exact ⟨_, _, hr, by simp [Builtin.len_, Ao hu]; rfl, rfl, rfl⟩
  | none =>
  simp only [run_bind] at hr
  obtain ⟨z, hr, hz⟩ := Ns h hx hr
  rcases hz with ⟨z', rfl, hz⟩ | ⟨m, u, l, rfl, hrd⟩
  ·split at hr
   ·rename_i heq; simp at heq
   ·rename_i heq
    simp only [Leaf.v.injEq] at heq
    rw [heq] at hz; subst hz
    exact ⟨_, _, hr, by simp [Builtin.len_, Ao hu]; rfl, rfl, rfl⟩
   ·simp [Pg.run] at hr
  ·simp only at hr
   obtain ⟨ad, c, hy⟩ := Br hrd
   subst hy
   exact ⟨_, _, hr, by simp [Builtin.len_, Ao hu]; rfl, rfl, rfl⟩
 ·simp [Pg.run] at hr
theorem Xtn {E : Env} (hE : ∀ t i, E.ty t = some i → TyOk P t i) {t : Nat} {x : A} {y : Value} (hx : AR w g σ.mem x y) (ty : TypeId)
  {K : A → St → Option γ} (hr : (X2h E t x).run tab σ K = some r) : ∃ z q, K z σ = some r ∧ (Builtin.cap_ #[t] ty #[y]).run P w = .ok q w ∧ AR w g σ.mem z q := by
 unfold X2h at hr
 split at hr
 ·rename_i e eb u l hty
  obtain ⟨te, f, hu, _⟩ := (hE t _ hty).sl e rfl rfl
  obtain ⟨_, _, _, _, _, r5⟩ := L4 (hx : Rd w g.S (.sl u) .rox l [y] []) (by simp)
  obtain ⟨ad, rfl⟩ := r5.2 rfl
  exact ⟨_, _, hr, by simp [Builtin.cap_, Ao hu]; rfl, rfl, rfl⟩
 ·rename_i e eb hty
  obtain ⟨te, f, hu, _⟩ := (hE t _ hty).sl e rfl rfl
  obtain ⟨rfl, _⟩ := (hx : y = _ ∧ _)
  exact ⟨_, _, hr, by simp [Builtin.cap_, Ao hu]; rfl, rfl, rfl⟩
 ·simp [Pg.run] at hr
theorem Tk {S : Nat → Prop} {m : Mode} {l : List (den (.int .u8))} {v : Value} {vss : List (List Value)} {bss : List (List Nat)} (h : RowsOk w S (.int .u8) m l v vss bss)
  {s te t : Nat} (hs : P.underlying s = some (.slice te)) (he : P.underlying te = some (.int .u8)) (hd : P.underlying t = some .string) :
  (convert s t v).run P w = .ok (.string (Lh l)) w := by
 obtain ⟨ad, c, hv, hc, hr⟩ := h.hd
 rcases hr with ⟨_, h2, h3⟩ | ⟨b, o, h1, h2⟩
 ·subst h2 h3
  rw [hv]
  cases ad with
  | none => exact run_convert_bytes_nil w s te hs he 0 0 t hd
  | some a =>
   rw [show Lh ([] : List (den (.int .u8))) = ByteArray.empty from rfl]
   rw [List.length_nil, run_convert_bytes_string w s t te (some a) 0 0 hs he hd]
   have hl : (loadCells a 0).run P w = .ok #[] w := by simpa using run_loadCells_list (P := P) w a [] (fun j v hj => by simp at hj)
   simp [Conv.bytesToString, hl]
 ·subst h1
  rw [hv]
  have hfl : vss.flatten = l.map (Value.int .u8) := by
   apply List.ext_getElem?
   intro i
   have hvs : vss = l.map fun n => [Value.int .u8 n] := by
    apply List.ext_getElem?
    intro i
    by_cases hi : i < l.length
    ·have h5 : i < vss.length := by rw [h.a]; exact hi
     have h6 : i < bss.length := by rw [h.b]; exact hi
     have := h.el i _ _ _ (List.getElem?_eq_getElem hi) (List.getElem?_eq_getElem h5) (List.getElem?_eq_getElem h6)
     rw [List.getElem?_eq_getElem h5, this.1]
     simp [List.getElem?_eq_getElem hi]
    ·rw [List.getElem?_eq_none (by rw [h.a]; omega), List.getElem?_eq_none (by simp; omega)]
   rw [hvs]
   have : ∀ l : List Int, (l.map fun n => [Value.int .u8 n]).flatten = l.map (Value.int .u8) := by
    intro l; induction l with
    | nil => rfl
    | cons a r ih => simp [ih]
   rw [this]
  refine run_convert_bytes_arg w s te hs he b o l.length c l rfl (fun i hi => ?_) t hd
  have := h2 i (.int .u8 (List.getD (show List Int from l) i 0)) (by rw [hfl]; simp [List.getElem?_eq_getElem hi])
  exact this
theorem Xk5 {E : Env} (hE : ∀ t i, E.ty t = some i → TyOk P t i) (h : Rel w g σ ts []) {s t : Nat} {x : A} {y : Value} (hx : AR w g σ.mem x y)
  {K : A → St → Option γ} (hr : (Xs8 E s t x).run tab σ K = some r) : ∃ z q, K z σ = some r ∧ (convert s t y).run P w = .ok q w ∧ AR w g σ.mem z q := by
 unfold Xs8 at hr
 split at hr
 ·rename_i i k eb k' n hs ht
  obtain ⟨d, hd, _⟩ := (hE s _ hs).agg
  obtain ⟨rfl, _⟩ := (hx : y = _ ∧ _)
  exact ⟨_, _, hr, by simp [convert, Ao hd, Ao ((hE t _ ht).int k rfl rfl), Conv.intToInt], rfl, rfl⟩
 ·rename_i i eb s' hs ht
  obtain ⟨d, hd, _⟩ := (hE s _ hs).agg
  obtain ⟨rfl, _⟩ := (hx : y = _ ∧ _)
  exact ⟨_, _, hr, by simp [convert, Ao hd, Ao ((hE t _ ht).str rfl rfl)], rfl, rfl⟩
 ·rename_i eb eb' y0 hno hs ht
  obtain ⟨te, hs1, hs2⟩ := (hE s _ hs).slI .u8 rfl rfl
  have hd := (hE t _ ht).str rfl rfl
  rw [run_bind] at hr
  obtain ⟨z, hr, hz⟩ := Pi h hx hr
  rcases hz with ⟨z', rfl, hz⟩ | ⟨m, u, l, rfl, hrd⟩
  ·split at hr
   ·rename_i heq
    simp only [Leaf.v.injEq] at heq
    rw [heq] at hz; subst hz
    exact ⟨_, _, hr, run_convert_bytes_nil w s te hs1 hs2 0 0 t hd, rfl, rfl⟩
   ·rename_i heq; simp at heq
   ·simp [Pg.run] at hr
  ·simp only at hr
   split at hr
   ·rename_i hu
    subst hu
    obtain ⟨vss, bss, r1, _⟩ := L4 hrd (by simp)
    have hstr := Tk (P := P) r1 hs1 hs2 hd
    exact ⟨_, _, hr, hstr, rfl, rfl⟩
   ·simp [Pg.run] at hr
 ·simp [Pg.run] at hr
theorem Xec {E : Env} (hE : ∀ t i, E.ty t = some i → TyOk P t i) {t : Nat} {x i : A} {y j : Value} (hx : AR w g σ.mem x y) (hi : AR w g σ.mem i j)
  {K : A → St → Option γ} (hr : (Xf5 E t x i).run tab σ K = some r) : ∃ z q, K z σ = some r ∧ (Instr.index t y j).run P w = .ok q w ∧ AR w g σ.mem z q := by
 unfold Xf5 at hr
 split at hr
 ·rename_i eb s hty
  obtain ⟨rfl, _⟩ := (hx : y = _ ∧ _)
  rw [run_bind] at hr
  obtain ⟨ik, n, rfl, hr⟩ := Vo hi hr
  simp only at hr
  rcases E9 hr with ⟨h0, hr⟩ | ⟨_, hr⟩
  ·rcases E9 hr with ⟨h1, hr⟩ | ⟨_, hr⟩
   ·simp only [decide_eq_true_eq] at h0 h1
    have hlt : n.toNat < s.size := by omega
    have hd : s.data.toList.getD n.toNat 0 = s[n.toNat] := by
     have h2 : n.toNat < s.data.toList.length := by simpa using hlt
     rw [List.getD_eq_getElem?_getD, List.getElem?_eq_getElem h2]
     simp only [Option.getD_some, Array.getElem_toList]
     rfl
    refine ⟨_, _, hr, ?_, rfl, rfl⟩
    simp only [Instr.index, asIntOf]
    simp [Ao ((hE t _ hty).str rfl rfl), h0, hlt, atB, hd]
    rfl
   ·simp [Pg.run] at hr
  ·simp [Pg.run] at hr
 ·simp [Pg.run] at hr
theorem Xfx {E : Env} (hE : ∀ t i, E.ty t = some i → TyOk P t i) (h : Rel w g σ ts []) {s t : Nat} {x : A} {y : Value} (hx : AR w g σ.mem x y) (hb : Xxy E s t = true)
  {K : A → St → Option γ} (hr : (Xc0 x).run tab σ K = some r) : ∃ z q w' g', K z σ = some r ∧ (convert s t y).run P w = .ok q w' ∧ Rel w' g' σ ts [] ∧ AR w' g' σ.mem z q ∧ Mv w g σ [] w' g' σ [] ∧ Frm w g w' := by
 unfold Xc0 at hr
 split at hr
 ·rename_i b
  obtain ⟨rfl, _⟩ := (hx : y = _ ∧ _)
  unfold Xxy at hb
  split at hb
  ·rename_i eb eb' hs ht
   have hu := (hE s _ hs).str rfl rfl
   obtain ⟨te, hd, he⟩ := (hE t _ ht).slI .u8 rfl rfl
   have hrun := Go.Lib.run_convert_string_bytes (P := P) w s t te b hu hd he
   have hold := Go.Lib.bytesWorld_at_old w te b
   have hsz := Go.Lib.bytesWorld_size w te b
   have hcell := Go.Lib.bytesWorld_cell w te b
   have hio : Io w (Go.Lib.bytesWorld w te b) := ⟨rfl, rfl, rfl⟩
   have hcap : b.size ≤ grownCap w b.size 0 te := grownCap_ge w b.size 0 te
   generalize Go.Lib.bytesWorld w te b = w' at *
   have hgr := h.grow (w' := w') hold (by omega)
   have hF : ∀ q, q = w.heap.size → (∀ k, q ∉ g.bl k) ∧ ¬ g.S q ∧ ∀ k o, g.ad k ≠ some (q, o) := by
    rintro q rfl
    exact ⟨fun k hb => by have := h.bllt k _ hb; omega, fun hs => by have := (h.st _ hs).2.2; omega, fun k o ha => by have := h.adlt ha; omega⟩
   have hm : Mv w g σ [] w' g σ [] := ⟨Step.world h (fun q hq => hold q (h.old (hq.imp id .inl))) (fun _ h => h) (fun _ _ h => h) rfl, fun _ h => .inl h, fun _ h => .inl h, fun _ _ h => .inl h, by omega, hio⟩
   refine ⟨_, _, w', _, hr, hrun, hgr.rehand (fun q => q = w.heap.size) hF (fun q hq => by omega) (by intro q hq; cases hq) (by simp [Hand.bs]) (by intro x hx; cases hx), ?_, Mv.rehand hgr (fun q => q = w.heap.size) (fun q hq => by omega) (by intro q hq; cases hq) hm, fun q hq _ => .inl (hold q hq).symm⟩
   have hlen : (bytesOf b).length = b.size := by simp [bytesOf]
   refine ⟨_, rfl, some ⟨w.heap.size, 0, none⟩, grownCap w b.size 0 te, by rw [hlen], by rw [hlen]; exact hcap, (fun h => by cases h), .inr ⟨w.heap.size, 0, List.replicate b.size [], rfl, by rw [hlen]; simp, (fun hf => by simp [Mode.isOwn] at hf), fun _ => ⟨rfl, by simp, fun _ => .inr ⟨.inr rfl, by simp [Hand.bs]⟩⟩, by simp, ?_⟩⟩
   intro i x b' _ hix hib
   have hi : i < b.size := by rw [← hlen]; exact (List.getElem?_eq_some_iff.1 hix).1
   have hb' : b' = [] := by
    have := (List.getElem?_eq_some_iff.1 hib).2
    rw [← this]; simp
   subst hb'
   have hx' : x = ((b.data.toList.getD i 0).toNat : Int) := by
    have h2 : i < b.data.toList.length := by simpa using hi
    have := (List.getElem?_eq_some_iff.1 hix).2
    rw [← this]
    simp [bytesOf, List.getD_eq_getElem?_getD, List.getElem?_eq_getElem h2]
   refine ⟨[.int .u8 x], rfl, fun j hj => ?_, rfl, rfl⟩
   have hj : j = 0 := by simp [wd] at hj; exact hj
   subst hj
   have := hcell i hi
   unfold cellAt
   rw [show (0 + i * wd (.int .u8) + 0) = i by simp [wd], this, hx']
   rfl
  ·simp at hb
 ·simp [Pg.run] at hr
theorem Xyy {op : UnOp} {x : A} {y : Value} (hx : AR w g σ.mem x y)
  {K : A → St → Option γ} (hr : (unP op x).run tab σ K = some r) : ∃ z q, K z σ = some r ∧ (Op.unary op y).run P w = .ok q w ∧ AR w g σ.mem z q := by
 unfold unP at hr
 split at hr
 ·obtain ⟨rfl, _⟩ := (hx : y = _ ∧ _)
  exact ⟨_, _, hr, by simp [Op.unary, Op.intArith], rfl, rfl⟩
 ·obtain ⟨rfl, _⟩ := (hx : y = _ ∧ _)
  exact ⟨_, _, hr, by simp [Op.unary, Op.intBits, Cf], rfl, rfl⟩
 ·obtain ⟨rfl, _⟩ := (hx : y = _ ∧ _)
  exact ⟨_, _, hr, by simp [Op.unary], rfl, rfl⟩
 ·simp [Pg.run] at hr
def ArgsR (w : World) (g : Gh) (mem : Mem) : List A → List Value → Prop
 | [], [] => True
 | x :: xs, y :: ys => AR w g mem x y ∧ ArgsR w g mem xs ys
 | _, _ => False
theorem Je {f : Int → Int → Int} {f2 : Value → Value → Sem Value} (hf : ∀ a b, (f2 (.int .i64 a) (.int .i64 b)).run P w = .ok (.int .i64 (f a b)) w) :
  ∀ {xs : List A} {ys : List Value} {a : Int}, ArgsR w g σ.mem xs ys → ∀ {K : A → St → Option γ}, (N3 f a xs).run tab σ K = some r →
  ∃ z q, K z σ = some r ∧ (ys.foldlM f2 (.int .i64 a)).run P w = .ok q w ∧ AR w g σ.mem z q
 | [], [], a, _, K, hr => ⟨_, _, hr, by simp, rfl, rfl⟩
 | x :: xs, y :: ys, a, hx, K, hr => by
  unfold N3 at hr
  split at hr
  ·simp at *
  ·rename_i _ b r' heq
   simp only [List.cons.injEq] at heq
   obtain ⟨rfl, rfl⟩ := heq
   obtain ⟨rfl, _⟩ := (hx.1 : y = _ ∧ _)
   obtain ⟨z, q, h1, h2, h3⟩ := Je hf hx.2 hr
   exact ⟨z, q, h1, by simp [hf, h2], h3⟩
  ·simp [Pg.run] at hr
 | [], _ :: _, _, h, _, _ => h.elim
 | _ :: _, [], _, h, _, _ => h.elim
theorem Xt1 {xs : List A} {ys : Array Value} (hx : ArgsR w g σ.mem xs ys.toList) (ats : Array TypeId) (ty : TypeId) {K : A → St → Option γ} (hr : (X2j xs).run tab σ K = some r) :
  ∃ z q, K z σ = some r ∧ (Builtin.min_ ats ty ys).run P w = .ok q w ∧ AR w g σ.mem z q := by
 unfold X2j at hr
 unfold Builtin.min_
 generalize ys.toList = ys at *
 split at hr
 ·rename_i a xs
  match ys, hx with
  | y :: ys, hx =>
   obtain ⟨rfl, _⟩ := (hx.1 : y = _ ∧ _)
   exact Je (fun a b => by simp [Builtin.min2]) hx.2 hr
 ·simp [Pg.run] at hr
theorem Xsj {xs : List A} {ys : Array Value} (hx : ArgsR w g σ.mem xs ys.toList) (ats : Array TypeId) (ty : TypeId) {K : A → St → Option γ} (hr : (X4j xs).run tab σ K = some r) :
  ∃ z q, K z σ = some r ∧ (Builtin.max_ ats ty ys).run P w = .ok q w ∧ AR w g σ.mem z q := by
 unfold X4j at hr
 unfold Builtin.max_
 generalize ys.toList = ys at *
 split at hr
 ·rename_i a xs
  match ys, hx with
  | y :: ys, hx =>
   obtain ⟨rfl, _⟩ := (hx.1 : y = _ ∧ _)
   exact Je (fun a b => by simp [Builtin.max2]) hx.2 hr
 ·simp [Pg.run] at hr
theorem Uw (t : TypeId) (te : TypeId) (a : Addr) (n c : Nat) (h : P.underlying t = some (.slice te)) : (Op.equal t (.slice (some a) n c) (.slice none 0 0)).run P w = .ok false w := by
 have : ∀ d : Nat, (Op.equalIn (d + 1) t (.slice (some a) n c) (.slice none 0 0)).run P w = .ok false w := fun d => by
  simp [Op.equalIn, Ao (P := P) (w := w) h]
 exact this 9999
theorem Tv (t : TypeId) (te : TypeId) (h : P.underlying t = some (.slice te)) : (Op.equal t (.slice none 0 0) (.slice none 0 0)).run P w = .ok true w := by
 have : ∀ d : Nat, (Op.equalIn (d + 1) t (.slice none 0 0) (.slice none 0 0)).run P w = .ok true w := fun d => by
  simp [Op.equalIn, Ao (P := P) (w := w) h]
 exact this 9999
theorem Xta {E : Env} (hE : ∀ t i, E.ty t = some i → TyOk P t i) (hQ : ∀ t i, E.eqt t = true → E.ty t = some i → EqOk P t i.ty) {op : BinOp} {t : Nat} {x y : A} {u v : Value}
  (hx : AR w g σ.mem x u) (hy : AR w g σ.mem y v) (xo yo : Operand)
  {K : A → St → Option γ} (hr : (X27 E op t x y).run tab σ K = some r) :
  ∃ z q, K z σ = some r ∧ (do eqGuard op t xo yo u v; binOp op t u v : Sem Value).run P w = .ok q w ∧ AR w g σ.mem z q := by
 unfold X27 at hr
 split at hr
 ·rename_i k a k' b
  obtain ⟨rfl, _⟩ := (hx : u = _ ∧ _)
  obtain ⟨rfl, _⟩ := (hy : v = _ ∧ _)
  have hg : (eqGuard op t xo yo (.int k a) (.int k' b)).run P w = .ok () w := by
   cases op <;> simp [eqGuard]
  simp only [Sem.run_bind, hg, Result.andThen]
  split at hr
  ·rcases E9 hr with ⟨_, hr⟩ | ⟨hn, hr⟩
   ·simp [Pg.run] at hr
   ·simp only [decide_eq_false_iff_not] at hn
    exact ⟨_, _, hr, by simp [binOp, Op.shift, hn], rfl, rfl⟩
  ·rcases E9 hr with ⟨_, hr⟩ | ⟨hn, hr⟩
   ·simp [Pg.run] at hr
   ·simp only [decide_eq_false_iff_not] at hn
    exact ⟨_, _, hr, by simp [binOp, Op.shift, hn], rfl, rfl⟩
  ·cases hk : ikb k k' with
   | false => rw [hk] at hr; simp [Pg.run] at hr
   | true =>
    rw [hk] at hr
    have := L5 hk
    subst this
    obtain ⟨q, h1, h2⟩ := Xqx (P := P) (w := w) hr t
    exact ⟨_, q, h1, h2, rfl, rfl⟩
 ·rename_i a b
  obtain ⟨rfl, _⟩ := (hx : u = _ ∧ _)
  obtain ⟨rfl, _⟩ := (hy : v = _ ∧ _)
  cases hB : isB E t with
  | false => rw [hB] at hr; simp [Pg.run] at hr
  | true =>
   rw [hB] at hr
   simp only [cond_true] at hr
   have hu : P.underlying t = some .bool := by
    unfold isB at hB
    split at hB
    ·rename_i eb hty; exact (hE t _ hty).bool rfl rfl
    ·simp at hB
   have h1 := run_equal_bool (P := P) w t a b hu
   split at hr
   ·exact ⟨_, _, hr, by simp [eqGuard, binOp, h1], rfl, rfl⟩
   ·exact ⟨_, _, hr, by simp [eqGuard, binOp, h1], rfl, rfl⟩
   ·simp [Pg.run] at hr
 ·rename_i a b
  obtain ⟨rfl, _⟩ := (hx : u = _ ∧ _)
  obtain ⟨rfl, _⟩ := (hy : v = _ ∧ _)
  split at hr
  ·exact ⟨_, _, hr, by simp [eqGuard, binOp, Op.stringOp], rfl, rfl⟩
  ·exact ⟨_, _, hr, by simp [eqGuard, binOp, Op.stringOp], rfl, rfl⟩
  ·exact ⟨_, _, hr, by simp [eqGuard, binOp, Op.stringOp], rfl, rfl⟩
  ·exact ⟨_, _, hr, by simp [eqGuard, binOp, Op.stringOp], rfl, rfl⟩
  ·exact ⟨_, _, hr, by simp [eqGuard, binOp, Op.stringOp], rfl, rfl⟩
  ·exact ⟨_, _, hr, by simp [eqGuard, binOp, Op.stringOp], rfl, rfl⟩
  ·simp [Pg.run] at hr
 ·rename_i xs ys
  cases he : E.eqt t with
  | false => rw [he] at hr; simp [Pg.run] at hr
  | true =>
   rw [he] at hr
   simp only [cond_true] at hr
   split at hr
   ·rename_i ty eb hty
    have hq := hQ t _ he hty
    cases hs : Bc ty with
    | true => rw [hs] at hr; simp [Pg.run] at hr
    | false =>
     rw [hs] at hr
     simp only [cond_false] at hr
     split at hr
     ·rename_i a b ha hb'
      obtain ⟨us, rfl, hus⟩ := hx
      obtain ⟨vs, rfl, hvs⟩ := hy
      have e1 := Xaa ha hs
      have e2 := Xaa hb' hs
      subst e1; subst e2
      have e3 := Xbs hus
      have e4 := Xbs hvs
      subst e3; subst e4
      have h1 := hq.eq w a b
      split at hr
      ·exact ⟨_, _, hr, by simp [eqGuard, hq.guard, binOp, h1], rfl, rfl⟩
      ·exact ⟨_, _, hr, by simp [eqGuard, hq.guard, binOp, h1], rfl, rfl⟩
      ·simp [Pg.run] at hr
     ·simp [Pg.run] at hr
   ·simp [Pg.run] at hr
 ·rename_i m e l
  obtain ⟨rfl, _⟩ := (hy : v = _ ∧ _)
  cases hB : Xjk E t with
  | false => rw [hB] at hr; simp [Pg.run] at hr
  | true =>
   rw [hB] at hr
   simp only [cond_true] at hr
   obtain ⟨te, hu⟩ : ∃ te, P.underlying t = some (.slice te) := by
    unfold Xjk at hB
    split at hB
    ·rename_i e' eb hty
     obtain ⟨te, _, h, _⟩ := (hE t _ hty).sl _ rfl rfl
     exact ⟨te, h⟩
    ·simp at hB
   split at hr
   ·rcases E9 hr with ⟨_, hr⟩ | ⟨hn, hr⟩
    ·simp [Pg.run] at hr
    ·simp only [decide_eq_false_iff_not] at hn
     obtain ⟨y, hy1, hsl⟩ := (hx : Rd w g.S (.sl e) m l [u] [])
     obtain rfl : u = y := by simpa using hy1
     obtain ⟨ad, c, rfl, _, _, hh⟩ := hsl
     rcases hh with ⟨_, hl, _⟩ | ⟨b, o, bss, rfl, _⟩
     ·exact absurd (by rw [hl]; rfl) hn
     ·have h1 := Uw (P := P) (w := w) t te ⟨b, o, none⟩ l.length c hu
      exact ⟨_, _, hr, by simp [eqGuard, binOp, h1], rfl, rfl⟩
   ·simp [Pg.run] at hr
 ·obtain ⟨rfl, _⟩ := (hx : u = _ ∧ _)
  obtain ⟨rfl, _⟩ := (hy : v = _ ∧ _)
  cases hB : Xjk E t with
  | false => rw [hB] at hr; simp [Pg.run] at hr
  | true =>
   rw [hB] at hr
   simp only [cond_true] at hr
   obtain ⟨te, hu⟩ : ∃ te, P.underlying t = some (.slice te) := by
    unfold Xjk at hB
    split at hB
    ·rename_i e' eb hty
     obtain ⟨te, _, h, _⟩ := (hE t _ hty).sl _ rfl rfl
     exact ⟨te, h⟩
    ·simp at hB
   split at hr
   ·have h1 := Tv (P := P) (w := w) t te hu
    exact ⟨_, _, hr, by simp [eqGuard, binOp, h1], rfl, rfl⟩
   ·simp [Pg.run] at hr
 ·simp [Pg.run] at hr
theorem W7 {i : Nat} {x : A} {y : Value} (hx : AR w g σ.mem x y) {K : A → St → Option γ} (hr : (Sk i x).run tab σ K = some r) :
  ∃ z q, K z σ = some r ∧ (Instr.extract y i).run P w = .ok q w ∧ AR w g σ.mem z q := by
 unfold Sk at hr
 split at hr
 ·rename_i xs
  obtain ⟨ys, rfl, hlen, hp⟩ := hx
  split at hr
  ·rename_i zs hi
   rw [Cc] at hi
   have hlt : i < ys.length := by rw [hlen]; exact (List.getElem?_eq_some_iff.1 hi).1
   have := hp i _ ys[i] hi (List.getElem?_eq_getElem hlt)
   exact ⟨_, ys[i], hr, by simp [Instr.extract, hlt], this⟩
  ·rename_i z hi
   rw [Cc] at hi
   have hlt : i < ys.length := by rw [hlen]; exact (List.getElem?_eq_some_iff.1 hi).1
   have := hp i _ ys[i] hi (List.getElem?_eq_getElem hlt)
   exact ⟨_, ys[i], hr, by simp [Instr.extract, hlt], this⟩
  ·simp [Pg.run] at hr
 ·simp [Pg.run] at hr
theorem Xgj {E : Env} (hF : ∀ s f z, E.fld s f = some z → FldOk P s f z.1 z.2.1 z.2.2) {s f : Nat} {x : A} {y : Value} (hx : AR w g σ.mem x y)
  {K : A → St → Option γ} (hr : (Xew E s f x).run tab σ K = some r) : ∃ z q, K z σ = some r ∧ (Instr.field s y f).run P w = .ok q w ∧ AR w g σ.mem z q := by
 unfold Xew at hr
 split at hr
 ·rename_i o n gg xs hf
  obtain ⟨fs, fd, i, d, h1, h2, h3, h4, h5, h6, h7, h8⟩ := (hF s f _ hf).ok
  simp only at h3 h5 h6 h8
  obtain ⟨ys, rfl, hl⟩ := hx
  have hrun0 : ∀ q, (part fd.type ys.toArray o).run P w = .ok q w → (Instr.field s (.agg ys.toArray) f).run P w = .ok q w := by
   intro q hq
   simp [Instr.field, Ao h1, h2, asAgg, h3, hq]
  cases gg with
  | true =>
   simp only [cond_true] at hr
   refine ⟨_, .agg ((ys.drop o).take n).toArray, hr, hrun0 _ ?_, (ys.drop o).take n, rfl, ?_, ?_⟩
   ·simp [part, Dq h7, h8, Bn h4, h5, List.take_drop]
   ·simp [hl.1]
   ·intro j x z hx hz
    rw [List.getElem?_take] at hx hz
    split at hx
    ·rw [if_pos (by assumption)] at hz
     rw [List.getElem?_drop] at hx hz
     exact hl.2 _ x z hx hz
    ·simp at hx
  | false =>
   simp only [cond_false] at hr
   split at hr
   ·rename_i z hz
    rw [Cc] at hz
    have hlt : o < ys.length := by rw [hl.1]; exact (List.getElem?_eq_some_iff.1 hz).1
    refine ⟨_, ys[o], hr, hrun0 _ ?_, hl.2 o z _ hz (List.getElem?_eq_getElem hlt)⟩
    simp [part, Dq h7, h8, hlt]
   ·simp [Pg.run] at hr
 ·simp [Pg.run] at hr
theorem S6 {E : Env} (hF : ∀ s f z, E.fld s f = some z → FldOk P s f z.1 z.2.1 z.2.2) {s f : Nat} {x : A} {y : Value} (hx : AR w g σ.mem x y)
  {K : A → St → Option γ} (hr : (L9 E s f x).run tab σ K = some r) : ∃ z q, K z σ = some r ∧ (Instr.fieldAt s y f).run P w = .ok q w ∧ AR w g σ.mem z q := by
 unfold L9 at hr
 split at hr
 ·rename_i o n gg p m v0 hf
  obtain ⟨fs, fd, i, d, h1, h2, h3, h4, h5, h6, h7, h8⟩ := (hF s f _ hf).ok
  simp only at h3 h5 h6 h8
  rw [run_bind] at hr
  obtain ⟨hle, hr⟩ := An hr
  have hle : o + n ≤ m := Nat.le_of_ble_eq_true hle
  have hrun0 : ∀ a : Addr, (Instr.fieldAt s (.pointer (some a)) f).run P w = .ok (.pointer (some (a.add o))) w := by
   intro a
   simp [Instr.fieldAt, Ao h1, h2, Instr.sureAddr, fieldPlace, Bn h4, h5, h6, h3]
  cases p with
  | cell k =>
   obtain ⟨_, b, o', rfl, hj⟩ := hx
   refine ⟨_, _, hr, hrun0 _, rfl, b, o' + o, by rw [Bh], fun j hlt => ?_⟩
   rw [Nat.add_assoc, hj (o + j) (by omega), Nat.add_assoc]
  | elem k e c =>
   obtain ⟨_, ⟨a', rfl⟩, x, hx, hv, hc⟩ := hx
   refine ⟨_, _, hr, hrun0 _, rfl, ⟨_, rfl⟩, x, hx, hv, fun hv => ?_⟩
   obtain ⟨t, q, a, len, cap, r1, r2, r3, r4, r5⟩ := hc hv
   refine ⟨t, q, a, len, cap, r1, r2, by omega, r4, ?_⟩
   simp only [Value.pointer.injEq, Option.some.injEq] at r5
   subst r5
   rw [Bh, Nat.add_assoc]
 ·simp [Pg.run] at hr
end
end Go.Rf
end

section
set_option linter.unusedVariables false
set_option linter.unusedSimpArgs false
namespace Go.Rf
theorem X6 (a : Addr) (m n : Nat) : (a.add m).add n = a.add (m + n) := by
 cases m <;> cases n <;> simp [Addr.add] <;> omega
theorem En {P : Program} {E : Env} (hE : ∀ t i, E.ty t = some i → TyOk P t i) {ty : Nat} {u : Ty} (h : Cy E ty u = true) :
  ∃ te f, P.underlying ty = some (.slice te) ∧ P.info? te = some f ∧ f.size = wd u := by
 unfold Cy elT at h
 split at h
 ·rename_i e he
  simp only [decide_eq_true_eq] at h
  subst h
  split at he
  ·rename_i e' eb hty
   simp only [Option.some.injEq] at he
   subst he
   obtain ⟨te, f, h1, h2, h3, _⟩ := (hE ty _ hty).sl _ rfl rfl
   exact ⟨te, f, h1, h2, h3⟩
  ·simp at he
 ·simp at h
section
variable {P : Program} {w : World} {g : Gh} {σ : St} {ts : Array Value} {H : Hand} {tab : Tab} {γ : Type} {r : γ}
theorem F2 {α : Type} {b : Bool} {p : Pg α} {K : α → St → Option γ} (h : (Pg.br b p .fail).run tab σ K = some r) : b = true ∧ p.run tab σ K = some r := by
 rcases E9 h with h | ⟨_, h⟩
 ·exact h
 ·simp [Pg.run] at h
theorem D4 {t te : Nat} {f : TypeInfo} (hu : P.underlying t = some (.slice te)) (hf : P.info? te = some f) {a : Addr} {n c : Nat} {k : IntKind} {i : Int} (h0 : 0 ≤ i) (h1 : i < n) :
  (Instr.indexAt t (.slice (some a) n c) (.int k i)).run P w = .ok (.pointer (some (a.add (i.toNat * f.size)))) w := by
 simp [Instr.indexAt, asIntOf, Ao hu, Bn hf, h0, h1]
theorem SlR.addr {S : Nat → Prop} {α : Type} {n : Nat} {m : Mode} {hole : Option Nat} {el : α → List Value → List Nat → Prop} {l : List α} {y : Value} {bs : List Nat}
  (h : SlR w S n m hole el l y bs) (hl : l ≠ []) : ∃ b o c, y = .slice (some ⟨b, o, none⟩) l.length c := by
 obtain ⟨ad, c, hy, _, _, hr⟩ := h
 rcases hr with ⟨_, h2, _⟩ | ⟨b, o, bss, h1, _⟩
 ·exact absurd h2 hl
 ·exact ⟨b, o, c, by rw [hy, h1]⟩
theorem Up {E : Env} (hE : ∀ t i, E.ty t = some i → TyOk P t i) (h : Rel w g σ ts []) {ty d : Nat} {x i : A} {y j : Value} (hx : AR w g σ.mem x y) (hi : AR w g σ.mem i j)
  {K : A → St → Option γ} (hr : (Ma E ty d x i).run tab σ K = some r) :
  ∃ z q g' σ', K z σ' = some r ∧ (Instr.indexAt ty y j).run P w = .ok q w ∧ Rel w g' σ' ts [] ∧ AR w g' σ'.mem z q ∧ Mv w g σ [] w g' σ' [] := by
 unfold Ma at hr
 rw [run_bind] at hr
 obtain ⟨ik, n, rfl, hr⟩ := Vo hi hr
 simp only at hr
 split at hr
 ·rename_i k v0 v1 wi _
  rw [run_bind] at hr
  obtain ⟨e, he, hr⟩ := A2 hr
  rw [run_bind] at hr
  obtain ⟨hv, hr⟩ := An hr
  obtain ⟨_, _, e2, he2, hl0, hl1, hc⟩ := hx
  simp only [Ib] at he2
  rw [he] at he2; cases he2
  obtain ⟨_, t', q, hh, r1, r2, r3⟩ := hc hv
  obtain ⟨ec, ev0, ev1⟩ := e
  cases ec with
  | s m t l =>
   simp only [leafAt, he, Option.map_some, Option.bind_some, lstOf, Option.some.injEq, Prod.mk.injEq] at r1
   obtain ⟨rfl, rfl⟩ := r1
   simp only [hdrAt, Option.some.injEq] at r2
   subst r2
   rw [run_bind] at hr
   obtain ⟨hs, hr⟩ := An hr
   obtain ⟨te, f, hu, hf, hfs⟩ := En hE hs
   obtain ⟨h0, hr⟩ := F2 hr
   obtain ⟨h1, hr⟩ := F2 hr
   simp only [decide_eq_true_eq] at h0 h1
   have hmem : Rd w g.S (.sl t) m l [g.hv k] (g.bl k) := h.mem k _ he
   obtain ⟨y', hy', hsl⟩ := hmem
   simp only [List.cons.injEq, and_true] at hy'
   subst hy'
   have hne : l ≠ [] := by
    rintro rfl
    cases wi with
    | none => simp [win] at h1; omega
    | some p => simp [win] at h1; omega
   obtain ⟨b, o, c, hhv⟩ := hsl.addr hne
   cases wi with
   | none =>
    simp only [P8] at r3
    subst r3
    simp only [win] at h1
    rw [hhv]
    refine ⟨_, _, g, σ, hr, D4 hu hf h0 h1, h, ⟨rfl, ⟨_, rfl⟩, _, he, Nat.le_refl _, fun _ => ⟨t, l.length, ⟨b, o, none⟩, _, _, rfl, (by show n.toNat < l.length; omega), by omega, hhv, ?_⟩⟩, Mv.refl _ _ _ _⟩
    rw [Bh, hfs]; rfl
   | some p =>
    obtain ⟨lo, hi⟩ := p
    obtain ⟨ad, c2, p, c', he3, hlo, hhi, rfl, hc1, hc2, hp⟩ := r3
    rw [hhv] at he3
    simp only [Value.slice.injEq, true_and] at he3
    obtain ⟨rfl, rfl⟩ := he3
    have hlen : (win (some (lo, hi)) l).length = hi - lo := by
     simp only [win, List.length_drop, List.length_take, Nat.min_eq_left hhi]
    rw [hlen] at h1
    have hplo : p = lo := by rcases hp with h5 | h5 <;> omega
    subst hplo
    simp only [Option.map_some]
    refine ⟨_, _, g, σ, hr, D4 hu hf h0 h1, h, ⟨rfl, ⟨_, rfl⟩, _, he, Nat.le_refl _, fun _ => ⟨t, l.length, ⟨b, o, none⟩, _, _, rfl, (by show p + n.toNat < l.length; omega), by omega, hhv, ?_⟩⟩, Mv.refl _ _ _ _⟩
    rw [Bh, Bh, hfs, Nat.add_assoc, ← Nat.add_mul]; rfl
  | h m t l e' c' =>
   simp only [leafAt, he, Option.map_some, Option.bind_some, lstOf, Option.some.injEq, Prod.mk.injEq] at r1
   obtain ⟨rfl, rfl⟩ := r1
   simp only [hdrAt, Option.some.injEq] at r2
   subst r2
   rw [run_bind] at hr
   obtain ⟨hs, hr⟩ := An hr
   rw [run_bind] at hr
   obtain ⟨hwn, hr⟩ := An hr
   obtain ⟨te, f, hu, hf, hfs⟩ := En hE hs
   obtain ⟨h0, hr8⟩ := F2 hr
   obtain ⟨h1, hr9⟩ := F2 hr8
   simp only [decide_eq_true_eq] at h0 h1
   cases wi with
   | none =>
    simp only [P8] at r3
    subst r3
    obtain ⟨b, o, c, hhv⟩ := Xiq (i := n.toNat) h he (by omega)
    rw [hhv]
    refine ⟨_, _, g, σ, hr9, D4 hu hf h0 h1, h, ⟨rfl, ⟨_, rfl⟩, _, he, Nat.le_refl _, fun _ => ⟨t, l.length, ⟨b, o, none⟩, _, _, rfl, (by show n.toNat < l.length; omega), by omega, hhv, ?_⟩⟩, Mv.refl _ _ _ _⟩
    rw [Bh, hfs]; rfl
   | some p => simp at hwn
  | q m t l p' =>
   simp only [leafAt, he, Option.map_some, Option.bind_some, lstOf, Option.some.injEq, Prod.mk.injEq] at r1
   obtain ⟨rfl, rfl⟩ := r1
   simp only [hdrAt, Option.some.injEq] at r2
   subst r2
   rw [run_bind] at hr
   obtain ⟨hs, hr⟩ := An hr
   rw [run_bind] at hr
   obtain ⟨hwn, hr⟩ := An hr
   obtain ⟨te, f, hu, hf, hfs⟩ := En hE hs
   obtain ⟨h0, hr8⟩ := F2 hr
   obtain ⟨h1, hr9⟩ := F2 hr8
   simp only [decide_eq_true_eq] at h0 h1
   cases wi with
   | none =>
    simp only [P8] at r3
    subst r3
    obtain ⟨b, o, c, hhv⟩ := q_hv (i := n.toNat) h he (by omega)
    rw [hhv]
    refine ⟨_, _, g, σ, hr9, D4 hu hf h0 h1, h, ⟨rfl, ⟨_, rfl⟩, _, he, Nat.le_refl _, fun _ => ⟨t, l.length, ⟨b, o, none⟩, _, _, rfl, (by show n.toNat < l.length; omega), by omega, hhv, ?_⟩⟩, Mv.refl _ _ _ _⟩
    rw [Bh, hfs]; rfl
   | some p => simp at hwn
  | _ => simp [Pg.run] at hr
 ·rename_i m t l _
  rw [run_bind] at hr
  obtain ⟨hs, hr⟩ := An hr
  obtain ⟨te, f, hu, hf, hfs⟩ := En hE hs
  obtain ⟨h0, hr⟩ := F2 hr
  obtain ⟨h1, hr⟩ := F2 hr
  simp only [decide_eq_true_eq] at h0 h1
  have hrd : Rd w g.S (.sl t) m l [y] [] := hx
  have hne : l ≠ [] := by rintro rfl; simp at h1; omega
  obtain ⟨y', hy', hsl⟩ := id hrd
  simp only [List.cons.injEq, and_true] at hy'
  subst hy'
  obtain ⟨b, o, c, hhv⟩ := hsl.addr hne
  simp only [run_bind, newRow, Pg.run] at hr
  cases he : σ.mem (G3 * d) with
  | some e => rw [he] at hr; simp [Pg.run] at hr
  | none =>
   rw [he] at hr
   simp only [Pg.run] at hr
   have h1' := h.push (x := .s m t l) hrd
   have h2 := h1'.root he
   subst hhv
   refine ⟨_, _, _, _, hr, D4 hu hf h0 h1, h2, ⟨rfl, ⟨_, rfl⟩, ⟨.s m t l, 0, 0⟩, by simp [St.mem_setM], Nat.le_refl _, fun _ => ⟨t, l.length, ⟨b, o, none⟩, _, _, rfl, by omega, by omega, Ac _ _ _, ?_⟩⟩, ?_⟩
   ·rw [Bh, hfs]; rfl
   ·refine ⟨Step.fresh he (fun _ h => h) (fun _ _ h => h) (fun q hq => Ax _ _ hq), ?_, fun _ h => .inl h, fun _ _ h => .inl h, Nat.le_refl _, Io.refl _⟩
    intro q hq
    left
    rcases hq with ⟨k, hk⟩ | hq
    ·by_cases hkk : k = G3 * d
     ·subst hkk; simp [Ac] at hk
     ·simp only [Ax _ _ hkk] at hk; exact .inl ⟨k, hk⟩
    ·exact .inr hq
 ·simp [Pg.run] at hr
def Xo1 (w : World) (g : Gh) (mem : Mem) : Option A → Option Value → Prop
 | none, none => True
 | some x, some y => AR w g mem x y
 | _, _ => False
def U1 : Option Int → Option Value → Prop
 | none, v => v = none
 | some n, v => ∃ k, v = some (.int k n)
theorem Lw {mem : Mem} {x : Option A} {y : Option Value} (hx : Xo1 w g mem x y) {K : Option Int → St → Option γ} (hr : (T2 x).run tab σ K = some r) :
  ∃ n, U1 n y ∧ K n σ = some r := by
 unfold T2 at hr
 split at hr
 ·cases y with
  | none => exact ⟨none, rfl, hr⟩
  | some y => exact hx.elim
 ·cases y with
  | none => exact hx.elim
  | some y =>
   obtain ⟨rfl, _⟩ := (hx : y = _ ∧ _)
   exact ⟨some _, ⟨_, rfl⟩, hr⟩
 ·simp [Pg.run] at hr
def Xnb (n : Nat) (lo hi : Option Int) : Prop :=
 (∀ h, hi = some h → 0 ≤ h ∧ h ≤ n) ∧ ∀ l, lo = some l → 0 ≤ l ∧ l ≤ hi.getD n
theorem Hp {n : Nat} {lo hi : Option Int} {K : Unit → St → Option γ} (hr : (Oj n lo hi).run tab σ K = some r) : Xnb n lo hi ∧ K () σ = some r := by
 unfold Oj at hr
 rw [run_bind] at hr
 have : (∀ h, hi = some h → 0 ≤ h ∧ h ≤ n) ∧ (match (generalizing := false) lo with
   | some l => N6 (decide (0 ≤ l) && decide (l ≤ hi.getD n))
   | none => Pg.ret () : Pg Unit).run tab σ K = some r := by
  cases hi with
  | none => exact ⟨by simp, hr⟩
  | some h =>
   obtain ⟨h1, hr⟩ := Cm hr
   simp only [Bool.and_eq_true, decide_eq_true_eq] at h1
   exact ⟨by rintro _ ⟨⟩; exact h1, hr⟩
 obtain ⟨h1, hr⟩ := this
 cases lo with
 | none => exact ⟨⟨h1, by simp⟩, hr⟩
 | some l =>
  obtain ⟨h2, hr⟩ := Cm hr
  simp only [Bool.and_eq_true, decide_eq_true_eq] at h2
  exact ⟨⟨h1, by rintro _ ⟨⟩; exact h2⟩, hr⟩
theorem E5 {n c : Nat} (hnc : n ≤ c) {lo hi mx : Option Int} {vlo vhi vmx : Option Value} (h1 : U1 lo vlo) (h2 : U1 hi vhi) (h3 : U1 mx vmx) (hb : Xnb n lo hi)
  (hm : ∀ m, mx = some m → hi = some m) (b : Bool) :
  (Instr.sliceBounds b n c vlo vhi vmx).run P w = .ok ((lo.getD 0).toNat, (hi.getD n).toNat, match mx with | none => c | some m => m.toNat) w := by
 obtain ⟨hb1, hb2⟩ := hb
 cases hi with
 | none =>
  have hmx : mx = none := by cases mx with
   | none => rfl
   | some m => have := hm m rfl; simp at this
  subst hmx
  simp only [U1] at h2 h3
  subst h2; subst h3
  cases lo with
  | none => simp only [U1] at h1; subst h1; simp [Instr.sliceBounds]
  | some l =>
   obtain ⟨k, rfl⟩ := h1
   obtain ⟨b1, b2⟩ := hb2 l rfl
   simp only [Option.getD_none] at b2
   simp [Instr.sliceBounds, run_sliceBound, b1, b2]
 | some hh =>
  obtain ⟨kh, rfl⟩ := h2
  obtain ⟨a1, a2⟩ := hb1 hh rfl
  have ehh : (hh.toNat : Int) = hh := Int.toNat_of_nonneg a1
  cases mx with
  | none =>
   simp only [U1] at h3; subst h3
   cases lo with
   | none => simp only [U1] at h1; subst h1; simp [Instr.sliceBounds, run_sliceBound, a1, (by omega : hh ≤ (c : Int))]
   | some l =>
    obtain ⟨k, rfl⟩ := h1
    obtain ⟨b1, b2⟩ := hb2 l rfl
    simp only [Option.getD_some] at b2
    simp [Instr.sliceBounds, run_sliceBound, a1, b1, b2, ehh, (by omega : hh ≤ (c : Int))]
  | some m =>
   have := hm m rfl
   simp only [Option.some.injEq] at this
   subst this
   obtain ⟨km, rfl⟩ := h3
   cases lo with
   | none => simp only [U1] at h1; subst h1; simp [Instr.sliceBounds, run_sliceBound, a1, ehh, (by omega : hh ≤ (c : Int))]
   | some l =>
    obtain ⟨k, rfl⟩ := h1
    obtain ⟨b1, b2⟩ := hb2 l rfl
    simp only [Option.getD_some] at b2
    simp [Instr.sliceBounds, run_sliceBound, a1, b1, b2, ehh, (by omega : hh ≤ (c : Int))]
theorem Xtc {α : Type} (l : List α) (lo hi : Option Int) : cut l lo hi = (l.take (hi.getD (l.length : Int)).toNat).drop (lo.getD 0).toNat := by
 cases lo <;> cases hi <;> simp [cut]
theorem Ye {n : Nat} {lo hi : Option Int} (h : Xnb n lo hi) : (lo.getD 0).toNat ≤ (hi.getD (n : Int)).toNat ∧ (hi.getD (n : Int)).toNat ≤ n := by
 obtain ⟨h1, h2⟩ := h
 cases hi with
 | none =>
  cases lo with
  | none => simp
  | some l => have := h2 l rfl; simp at this ⊢; omega
 | some hh =>
  have := h1 hh rfl
  cases lo with
  | none => simp; omega
  | some l => have := h2 l rfl; simp at this ⊢; omega
theorem O1 {q n c : Nat} {ad : Option Addr} {l h m : Nat} (hlh : l ≤ h) (hhn : h ≤ n) (hhm : h ≤ m) (hmc : m ≤ c) :
  P8 q n (some (l, h)) (.slice ad n c) (.slice (if m = l then ad else ad.map (·.add (l * q))) (h - l) (m - l)) := by
 by_cases hml : m = l
 ·refine ⟨ad, c, 0, m - l, rfl, hlh, hhn, ?_, by omega, by omega, .inr (by omega)⟩
  rw [if_pos hml]
  cases ad <;> simp [Addr.add_zero']
 ·refine ⟨ad, c, l, m - l, rfl, hlh, hhn, ?_, by omega, by omega, .inl rfl⟩
  rw [if_neg hml]
theorem F1 {t te : Nat} {f : TypeInfo} (hu : P.underlying t = some (.slice te)) (hf : P.info? te = some f) {a : Option Addr} {n c : Nat} {vlo vhi vmx : Option Value} {l h m : Nat}
  (hb : (Instr.sliceBounds true n c vlo vhi vmx).run P w = .ok (l, h, m) w) :
  (Instr.sliceAt t (.slice a n c) vlo vhi vmx).run P w = .ok (.slice (if m = l then a else a.map (·.add (l * f.size))) (h - l) (m - l)) w := by
 simp [Instr.sliceAt, Instr.slice, Ao hu, hb, Bn hf]
theorem Xf4 (h : Rel w g σ ts []) {p : Loc} {v0 v1 : Nat} {wi : Option (Nat × Nat)} {y : Value} (hx : AOk w g σ.mem p v0 v1 wi y) {K : Leaf → St → Option γ}
  (hr : (I2 (.a p v0 v1 wi)).run tab σ K = some r) :
  ∃ m t l e, K (.s .ro t (win wi l)) σ = some r ∧ leafAt σ.mem p = some (.s m t l) ∧ σ.mem (Ib p) = some e ∧ Ii p v0 v1 e = true ∧ ∃ ad c, y = .slice ad (win wi l).length c := by
 have key : ∃ m t l e, leafAt σ.mem p = some (.s m t l) ∧ σ.mem (Ib p) = some e ∧ Ii p v0 v1 e = true ∧
   ∀ {δ : Type} (K : Leaf → St → Option δ), (I2 (.a p v0 v1 wi)).run tab σ K = K (.s .ro t (win wi l)) σ := by
  obtain ⟨_, e, he, h0, h1, hc⟩ := hx
  simp only [I2, run_bind] at hr
  cases p with
  | cell k =>
   simp only [Hl] at hr
   obtain ⟨e', he', hr⟩ := A2 hr
   simp only [Ib] at he
   rw [he] at he'; cases he'
   obtain ⟨hv, hr⟩ := An hr
   obtain ⟨_, t', q, hh, r1, r2, r3⟩ := hc hv
   obtain ⟨ec, ev0, ev1⟩ := e
   cases ec with
   | s m t l => exact ⟨m, t, l, _, by simp [leafAt, he], he, hv, fun K => by simp [I2, run_bind, Hl, C1, Pg.run, he, hv, C8]⟩
   | v z => simp [leafAt, he, lstOf] at r1
   | _ => simp [Pg.run] at hr
  | elem k i c =>
   simp only [Hl, run_bind] at hr
   obtain ⟨e', he', hr⟩ := A2 hr
   simp only [Ib] at he
   rw [he] at he'; cases he'
   obtain ⟨ec, ev0, ev1⟩ := e
   cases ec with
   | s m t l =>
    simp only at hr
    cases hn : Dw (enc m.nest t (nthD l i (Be t))) c with
    | none => rw [hn] at hr; simp [Pg.run] at hr
    | some y0 =>
     rw [hn] at hr
     simp only [Pg.run] at hr
     obtain ⟨hv, hr⟩ := An hr
     obtain ⟨hin, t', q, hh, r1, r2, r3⟩ := hc hv
     cases y0 with
     | s m2 t2 l2 => exact ⟨m2, t2, l2, _, by simp [leafAt, he, hn], he, hv, fun K => by
       have hv' : Ii (.elem k i c) v0 v1 ⟨.s m2 t2 l2, ev0, ev1⟩ = true := hv
       simp [I2, run_bind, Hl, C1, Pg.run, he, hn, hv', C8]⟩
     | v z => simp [leafAt, he, hn, lstOf] at r1
     | _ => simp [Pg.run] at hr
   | _ => simp [Pg.run] at hr
 obtain ⟨m, t, l, e, k1, k2, k3, k4⟩ := key
 refine ⟨m, t, l, e, by rw [← k4 K]; exact hr, k1, k2, k3, ?_⟩
 obtain ⟨x', hx', hz⟩ := Ns (tab := tab) (K := fun x _ => some x) (r := Leaf.s .ro t (win wi l)) h (x := .a p v0 v1 wi) (y := y) ⟨rfl, hx⟩ (k4 _)
 simp only [Option.some.injEq] at hx'
 subst hx'
 rcases hz with ⟨z, hz, _⟩ | ⟨m', t', l', hz, hrd⟩
 ·simp at hz
 ·simp only [Leaf.s.injEq] at hz
  obtain ⟨rfl, rfl, hz⟩ := hz
  have hz := eq_of_heq hz
  subst hz
  obtain ⟨ad, c, hy⟩ := Br hrd
  exact ⟨ad, c, hy⟩
theorem Xow {p : Loc} {v0 v1 : Nat} {wi : Option (Nat × Nat)} {m : Mode} {t : Ty} {l : List (den t)} {e : Ent} {K : Leaf → St → Option γ}
  (h1 : leafAt σ.mem p = some (.s m t l)) (h2 : σ.mem (Ib p) = some e) (h3 : Ii p v0 v1 e = true) : (I2 (.a p v0 v1 wi)).run tab σ K = K (.s .ro t (win wi l)) σ := by
 cases p with
 | cell k =>
  simp only [Ib] at h2
  simp only [leafAt, h2, Option.map_some, Option.some.injEq] at h1
  obtain ⟨ec, ev0, ev1⟩ := e
  simp only at h1
  subst h1
  simp [I2, run_bind, Hl, C1, Pg.run, h2, h3, C8]
 | elem k i c =>
  simp only [Ib] at h2
  obtain ⟨ec, ev0, ev1⟩ := e
  cases ec with
  | s m' t' l' =>
   simp only [leafAt, h2] at h1
   have h3' : Ii (.elem k i c) v0 v1 ⟨.s m t l, ev0, ev1⟩ = true := h3
   simp [I2, run_bind, Hl, C1, Pg.run, h2, h1, h3', C8]
  | _ => simp [leafAt, h2] at h1
theorem Xn0 (wi : Option (Nat × Nat)) (n : Nat) (lo hi : Option Int) (h : ¬ (lo = none ∧ hi = none)) :
  V2 wi n lo hi = match wi with | none => some ((lo.getD 0).toNat, (hi.getD n).toNat) | some (p, _) => some (p + (lo.getD 0).toNat, p + (hi.getD n).toNat) := by
 cases lo <;> cases hi <;> cases wi <;> simp [V2] at h ⊢
theorem Xcv {q n nn c : Nat} {wi : Option (Nat × Nat)} {hh : Value} {ad : Option Addr} (hw : P8 q n wi hh (.slice ad nn c)) (hn : wi = none → nn = n) {lo hi mx : Option Int} {m : Nat}
  (hlh : (lo.getD 0).toNat ≤ (hi.getD nn).toNat) (hhn : (hi.getD nn).toNat ≤ nn) (hhm : (hi.getD nn).toNat ≤ m) (hmc : m ≤ c) (hm0 : lo = none → hi = none → m = c) :
  P8 q n (V2 wi nn lo hi) hh (.slice (if m = (lo.getD 0).toNat then ad else ad.map (·.add ((lo.getD 0).toNat * q))) ((hi.getD nn).toNat - (lo.getD 0).toNat) (m - (lo.getD 0).toNat)) := by
 by_cases hno : lo = none ∧ hi = none
 ·obtain ⟨rfl, rfl⟩ := hno
  have := hm0 rfl rfl
  subst this
  simp only [V2, Option.getD_none, Option.isNone_none, Bool.and_self, cond_true]
  have e1 : (if m = (0 : Int).toNat then ad else ad.map (·.add ((0 : Int).toNat * q))) = ad := by
   cases ad <;> simp [Addr.add_zero']
  rw [e1]
  simpa using hw
 ·rw [Xn0 wi nn lo hi hno]
  cases wi with
  | none =>
   simp only [P8] at hw
   subst hw
   have := hn rfl
   subst this
   exact O1 hlh hhn hhm hmc
  | some pq =>
   obtain ⟨p0, q0⟩ := pq
   obtain ⟨ad0, c0, p, c', rfl, g1, g2, g3, g4, g5, g6⟩ := hw
   simp only [Value.slice.injEq] at g3
   obtain ⟨rfl, rfl, rfl⟩ := g3
   generalize (lo.getD 0).toNat = a at *
   generalize (hi.getD ((q0 - p0 : Nat) : Int)).toNat = h at *
   refine ⟨ad0, c0, if m = a then p else p + a, m - a, rfl, by omega, by omega, ?_, by omega, ?_, ?_⟩
   ·have e1 : p0 + h - (p0 + a) = h - a := by omega
    rw [e1]
    by_cases hma : m = a
    ·rw [if_pos hma, if_pos hma]
    ·rw [if_neg hma, if_neg hma]
     cases ad0 with
     | none => rfl
     | some a0 => simp only [Option.map_some]; rw [X6, Nat.add_mul]
   ·by_cases hma : m = a
    ·rw [if_pos hma]; omega
    ·rw [if_neg hma]; omega
   ·by_cases hma : m = a
    ·right; omega
    ·rw [if_neg hma]
     rcases g6 with g6 | g6
     ·left; omega
     ·right; omega
theorem Xd3 {E : Env} (hE : ∀ t i, E.ty t = some i → TyOk P t i) (h : Rel w g σ ts []) {ty : Nat} {x : A} {lo hi mx : Option A} {y : Value} {vlo vhi vmx : Option Value}
  (hx : AR w g σ.mem x y) (hlo : Xo1 w g σ.mem lo vlo) (hhi : Xo1 w g σ.mem hi vhi) (hmx : Xo1 w g σ.mem mx vmx)
  {K : A → St → Option γ} (hr : (Xdi E ty x lo hi mx).run tab σ K = some r) :
  ∃ z q, K z σ = some r ∧ (Instr.sliceAt ty y vlo vhi vmx).run P w = .ok q w ∧ AR w g σ.mem z q := by
 unfold Xdi at hr
 rw [run_bind] at hr
 obtain ⟨x0, rfl, k1, hx0⟩ := U5 hx hr
 rw [run_bind] at k1
 obtain ⟨lo, hlo, k2⟩ := Lw hlo k1
 rw [run_bind] at k2
 obtain ⟨hi, hhi, k3⟩ := Lw hhi k2
 rw [run_bind] at k3
 obtain ⟨mx, hmx, k4⟩ := Lw hmx k3
 rw [run_bind] at k4
 obtain ⟨hmh, k5⟩ := An k4
 clear k4 k3 k2 k1 hr
 have hr := k5
 clear k5
 have hmm : ∀ {n : Int}, (∀ m, mx = some m → m = hi.getD n) → ∀ m, mx = some m → hi = some m := by
  intro n hm m hm'
  subst hm'
  have := hm m rfl
  cases hi with
  | none => simp at hmh
  | some hh => simp at this; rw [this]
 split at hr
 ·
  rw [run_bind] at hr
  obtain ⟨he, hr⟩ := An hr
  rw [run_bind] at hr
  obtain ⟨hb, hr⟩ := Hp hr
  obtain ⟨rfl, _⟩ := (hx0 : y = _ ∧ _)
  have hty : ∃ te f, P.underlying ty = some (.slice te) ∧ P.info? te = some f := by
   unfold elT at he
   split at he
   ·rename_i e eb hty
    obtain ⟨te, f, h1, h2, _⟩ := (hE ty _ hty).sl e rfl rfl
    exact ⟨te, f, h1, h2⟩
   ·simp at he
  obtain ⟨te, f, hu, hf⟩ := hty
  obtain ⟨b1, b2⟩ := Ye hb
  have hm : (∀ m, mx = some m → m = hi.getD (0 : Nat)) ∧ K (.one (.v (.slice none 0 0))) σ = some r := by
   cases mx with
   | none => exact ⟨by simp, hr⟩
   | some m =>
    rw [run_bind] at hr
    obtain ⟨hm, hr⟩ := Cm hr
    simp only [decide_eq_true_eq] at hm
    refine ⟨?_, hr⟩
    rintro _ ⟨⟩
    cases hi with
    | none => simp at hmh
    | some hh => have := hb.1 hh rfl; simp only [Option.getD_some]; omega
  obtain ⟨hm, hr⟩ := hm
  have hrun := F1 (P := P) (w := w) (a := none) hu hf (E5 (P := P) (w := w) (Nat.le_refl 0) hlo hhi hmx hb (hmm hm) true)
  refine ⟨_, _, hr, hrun, ?_, rfl⟩
  have h6 : (hi.getD ((0 : Nat) : Int)).toNat = 0 := by omega
  have h7 : (lo.getD 0).toNat = 0 := by omega
  cases mx with
  | none => simp only [h6, h7]; simp
  | some m =>
   have := hm m rfl
   have h8 : m.toNat = 0 := by rw [this]; exact h6
   simp only [h6, h7, h8]; simp
 ·rename_i s
  rw [run_bind] at hr
  obtain ⟨he, hr⟩ := An hr
  rw [run_bind] at hr
  obtain ⟨hb, hK⟩ := Hp hr
  obtain ⟨rfl, _⟩ := (hx0 : y = _ ∧ _)
  simp only [Bool.and_eq_true] at he
  have hu : P.underlying ty = some .string := by
   unfold X0q at he
   have he := he.2
   split at he
   ·rename_i eb hty; exact (hE ty _ hty).str rfl rfl
   ·simp at he
  cases mx with
  | some m => simp at he
  | none =>
   simp only [U1] at hmx
   subst hmx
   have hrun := E5 (P := P) (w := w) (Nat.le_refl s.size) hlo hhi (mx := none) (vmx := none) rfl hb (by simp) false
   refine ⟨_, _, hK, ?_, rfl, rfl⟩
   simp [Instr.sliceAt, Instr.slice, Ao hu, hrun]
 ·rename_i m t l
  rw [run_bind] at hr
  obtain ⟨hs, hr⟩ := An hr
  obtain ⟨te, f, hu, hf, hfs⟩ := En hE hs
  cases hmo : m.isOwn with
  | true => rw [hmo] at hr; simp [Pg.run] at hr
  | false =>
   rw [hmo] at hr
   simp only [cond_false, run_bind] at hr
   obtain ⟨hb, hr⟩ := Hp hr
   obtain ⟨b1, b2⟩ := Ye hb
   have hrd : Rd w g.S (.sl t) m l [y] [] := hx0
   obtain ⟨y', hy', hs⟩ := (Rd.imp (t := .sl t) (fun b hb => hb.resolve_right (by simp)) hrd.toRo fun _ _ => rfl : Rd w g.S (.sl t) .ro l [y] [])
   simp only [List.cons.injEq, and_true] at hy'
   subst hy'
   have hs2 := hs
   obtain ⟨ad, c, rfl, hlc, _, _⟩ := hs2
   cases mx with
   | none =>
    have hrun := F1 (P := P) (w := w) (a := ad) hu hf (E5 (P := P) (w := w) hlc hlo hhi hmx hb (by simp) true)
    rw [hfs] at hrun
    obtain ⟨bs', hsub, hs'⟩ := hs.win (by simp) (O1 (q := wd t) (ad := ad) b1 b2 (Nat.le_trans b2 hlc) (Nat.le_refl c))
    have : bs' = [] := by simpa using hsub
    subst this
    refine ⟨_, _, hr, hrun, ?_⟩
    rw [Xtc]
    exact ⟨_, rfl, hs'⟩
   | some mm =>
    rw [run_bind] at hr
    obtain ⟨hm, hr⟩ := Cm hr
    simp only [decide_eq_true_eq] at hm
    have hm' : ∀ m, some mm = some m → m = hi.getD l.length := by rintro _ ⟨⟩; exact hm
    have hrun := F1 (P := P) (w := w) (a := ad) hu hf (E5 (P := P) (w := w) hlc hlo hhi hmx hb (hmm hm') true)
    rw [hfs] at hrun
    simp only [hm] at hrun
    obtain ⟨bs', hsub, hs'⟩ := hs.win (by simp) (O1 (q := wd t) (ad := ad) (m := (hi.getD (l.length : Int)).toNat) b1 b2 (Nat.le_refl _) (Nat.le_trans b2 hlc))
    have : bs' = [] := by simpa using hsub
    subst this
    refine ⟨_, _, hr, hrun, ?_⟩
    rw [Xtc]
    obtain ⟨ad2, c2, h1, h2, _, h4⟩ := hs'
    refine ⟨_, rfl, ad2, c2, h1, h2, fun _ => ?_, h4⟩
    simp only [Value.slice.injEq] at h1
    exact h1.2.2.symm.trans h1.2.1
 ·rename_i p v0 v1 wi
  rw [run_bind] at hr
  have ha := hx0.2
  obtain ⟨m, t, l, e, hr, hleaf, he, hck, ad, c, rfl⟩ := Xf4 h ha hr
  simp only [run_bind] at hr
  obtain ⟨hs, hr⟩ := An hr
  obtain ⟨te, f, hu, hf, hfs⟩ := En hE hs
  obtain ⟨hb, hr⟩ := Hp hr
  obtain ⟨b1, b2⟩ := Ye hb
  obtain ⟨_, e2, he2, hv0, hv1, hc⟩ := ha
  rw [he] at he2; cases he2
  obtain ⟨hin, t', q, hh, r1, r2, r3⟩ := hc hck
  rw [hleaf] at r1
  simp only [Option.bind_some, lstOf, Option.some.injEq, Prod.mk.injEq] at r1
  obtain ⟨rfl, rfl⟩ := r1
  have hnc : (win wi l).length ≤ c := by
   obtain ⟨x', hx', hz⟩ := Ns (tab := fun _ _ => none) (K := fun x _ => some x) (r := Leaf.s .ro t (win wi l)) h hx0
    (Xow (tab := fun _ _ => none) (K := fun x _ => some x) hleaf he hck)
   simp only [Option.some.injEq] at hx'
   subst hx'
   rcases hz with ⟨z, hz, _⟩ | ⟨m', t', l', hz, hrd⟩
   ·simp at hz
   ·simp only [Leaf.s.injEq] at hz
    obtain ⟨rfl, rfl, hz⟩ := hz
    have hz := eq_of_heq hz
    subst hz
    obtain ⟨y', hy', ad', c', hy2, hle, _⟩ := hrd
    simp only [List.cons.injEq, and_true] at hy'
    subst hy'
    simp only [Value.slice.injEq, true_and] at hy2
    omega
  have hmm2 : (∀ m, mx = some m → m = hi.getD ((win wi l).length : Nat)) ∧ K (.one (.a p v0 v1 (V2 wi (win wi l).length lo hi))) σ = some r := by
   cases mx with
   | none => exact ⟨by simp, hr⟩
   | some m =>
    obtain ⟨hm, hr⟩ := Cm hr
    simp only [decide_eq_true_eq] at hm
    exact ⟨by rintro _ ⟨⟩; exact hm, hr⟩
  obtain ⟨hm, hr⟩ := hmm2
  have hrun := F1 (P := P) (w := w) (a := ad) hu hf (E5 (P := P) (w := w) hnc hlo hhi hmx hb (hmm hm) true)
  rw [hfs] at hrun
  refine ⟨_, _, hr, hrun, rfl, ⟨_, _, _, rfl⟩, e, he, hv0, hv1, fun _ => ⟨hin, t, l.length, hh, by rw [hleaf]; rfl, r2, ?_⟩⟩
  refine Xcv (mx := mx) r3 (fun hw => by rw [hw]; rfl) b1 b2 ?_ ?_ ?_
  ·cases mx with
   | none => exact Nat.le_trans b2 hnc
   | some m => have := hm m rfl; simp only; omega
  ·cases mx with
   | none => exact Nat.le_refl _
   | some m => have := hm m rfl; simp only; omega
  ·intro h1 h2
   cases mx with
   | none => rfl
   | some m => simp [h2] at hmh
 ·simp [Pg.run] at hr
end
end Go.Rf
end

section
set_option linter.unusedVariables false
set_option linter.unusedSimpArgs false
namespace Go.Rf
structure BldOk (P : Program) (t : Nat) (fld : Nat → Option (Nat × Nat × Bool)) : Prop where
 ok : ∃ (place : Nat → Option (Nat × Nat)) (it : TypeInfo) (z : Value), P.info? t = some it ∧ it.zero = some z ∧ (∀ parts, P.built t parts = Instr.fill place z.cells parts) ∧
  ∀ f o n g, fld f = some (o, n, g) → place f = some (o, n)
theorem Xhq {α : Type} {o : Nat} : ∀ (xs : List α) (k : Nat) (cells : Array α) (A B : List α), cells.toList = A ++ B → A.length = o + k → xs.length ≤ B.length →
  ((xs.zipIdx k).foldl (fun cs (c, j) => cs.setIfInBounds (o + j) c) cells).toList = A ++ xs ++ B.drop xs.length
 | [], k, cells, A, B, h, hA, hB => by simp [h]
 | x :: xs, k, cells, A, [], h, hA, hB => by simp at hB
 | x :: xs, k, cells, A, b :: B, h, hA, hB => by
  simp only [List.zipIdx_cons, List.foldl_cons]
  rw [Xhq xs (k + 1) _ (A ++ [x]) B (by simp [h, ← hA]) (by simp [hA]; omega) (by simpa using hB)]
  simp
theorem Va {place : Nat → Option (Nat × Nat)} {cells : Array Value} {i off sz : Nat} {v : Value} {rest : List (Nat × Value)} (hp : place i = some (off, sz)) (hv : v.cells.size = sz)
  (hb : off + sz ≤ cells.size) :
  Instr.fill place cells ((i, v) :: rest) = Instr.fill place (cells.toList.take off ++ v.cells.toList ++ cells.toList.drop (off + sz)).toArray rest := by
 rw [Instr.fill]
 simp only [hp]
 rw [if_neg (by simp [hv]; omega)]
 congr 1
 apply Array.toList_inj.1
 have := Xhq (o := off) v.cells.toList 0 cells (cells.toList.take off) (cells.toList.drop off) (by simp) (by simp; omega) (by simp; omega)
 rw [← Array.foldl_toList, Array.toList_zipIdx]
 simpa [hv, Nat.add_comm] using this
section
variable {P : Program} {w : World} {g : Gh} {σ : St} {ts : Array Value} {H : Hand} {tab : Tab} {γ : Type} {r : γ}
theorem LsR.append {mem : Mem} {xs xs' : List Leaf} {ys ys' : List Value} (h : LsR w g mem xs ys) (h' : LsR w g mem xs' ys') : LsR w g mem (xs ++ xs') (ys ++ ys') := by
 refine ⟨by simp [h.1, h'.1], fun i x z h1 h2 => ?_⟩
 by_cases hi : i < xs.length
 ·rw [List.getElem?_append_left hi] at h1
  rw [List.getElem?_append_left (by rw [h.1]; exact hi)] at h2
  exact h.2 i x z h1 h2
 ·rw [List.getElem?_append_right (by omega)] at h1
  rw [List.getElem?_append_right (by rw [h.1]; omega), h.1] at h2
  exact h'.2 _ x z h1 h2
theorem LsR.take {mem : Mem} {xs : List Leaf} {ys : List Value} (h : LsR w g mem xs ys) (n : Nat) : LsR w g mem (xs.take n) (ys.take n) := by
 refine ⟨by simp [h.1], fun i x z h1 h2 => ?_⟩
 rw [List.getElem?_take] at h1 h2
 split at h1
 ·rw [if_pos (by assumption)] at h2; exact h.2 i x z h1 h2
 ·simp at h1
theorem LsR.drop {mem : Mem} {xs : List Leaf} {ys : List Value} (h : LsR w g mem xs ys) (n : Nat) : LsR w g mem (xs.drop n) (ys.drop n) := by
 refine ⟨by simp [h.1], fun i x z h1 h2 => ?_⟩
 rw [List.getElem?_drop] at h1 h2
 exact h.2 _ x z h1 h2
theorem Xbb {mem : Mem} {x : A} {y : Value} {xs : List Leaf} {ys : List Value} (hl : LsR w g mem xs ys)
  (hk : (∃ z, x = .one z ∧ xs = [z] ∧ ys = [y] ∧ D8 z = true) ∨ (x = .agg xs ∧ y = .agg ys.toArray)) : y.cells.toList = ys := by
 rcases hk with ⟨z, rfl, rfl, rfl, hok⟩ | ⟨rfl, rfl⟩
 ·have h1 : y.oneCell' = true := Hz hok hl.tail.1
  rw [F9 h1]
 ·rfl
def PartsR (w : World) (g : Gh) (mem : Mem) : List (Nat × A) → List (Nat × Value) → Prop
 | [], [] => True
 | x :: xs, y :: ys => (x.1 = y.1 ∧ AR w g mem x.2 y.2) ∧ PartsR w g mem xs ys
 | _, _ => False
theorem Na {E : Env} {t : Nat} {place : Nat → Option (Nat × Nat)} (hpl : ∀ f o n g, E.fld t f = some (o, n, g) → place f = some (o, n)) :
  ∀ {ps : List (Nat × A)} {vs : List (Nat × Value)} {cs : List Leaf} {us : List Value}, PartsR w g σ.mem ps vs → LsR w g σ.mem cs us →
   ∀ {K : List Leaf → St → Option γ}, (Md E t cs ps).run tab σ K = some r →
   ∃ cs' us', K cs' σ = some r ∧ LsR w g σ.mem cs' us' ∧ Instr.fill place us.toArray vs = some us'.toArray
 | [], [], cs, us, _, hl, K, hr => ⟨cs, us, hr, hl, by simp [Instr.fill]⟩
 | (f, x) :: ps, (f', v) :: vs, cs, us, ⟨⟨hf, hx⟩, hps⟩, hl, K, hr => by
  simp only at hf
  subst hf
  unfold Md at hr
  cases hfl : E.fld t f with
  | none => rw [hfl] at hr; simp [Pg.run] at hr
  | some z =>
   obtain ⟨o, n, gg⟩ := z
   rw [hfl] at hr
   simp only [run_bind] at hr
   obtain ⟨ys, vv, hr, hls, hk⟩ := Fz hx hr
   obtain ⟨hlit, hr⟩ := An hr
   simp only [Bool.and_eq_true] at hlit
   have h1 : ys.length = n := Nat.eq_of_beq_eq_true hlit.1
   have h2 : o + n ≤ cs.length := Nat.le_of_ble_eq_true hlit.2
   have hc := Xbb hls hk
   have hvl : v.cells.size = n := by rw [← Array.length_toList, hc, hls.1, h1]
   have hl2 : LsR w g σ.mem (Cb cs o ys) (us.take o ++ vv ++ us.drop (o + n)) := by
    unfold Cb
    rw [h1]
    exact ((hl.take o).append hls).append (hl.drop (o + n))
   obtain ⟨cs', us', e1, e2, e3⟩ := Na hpl hps hl2 hr
   refine ⟨cs', us', e1, e2, ?_⟩
   rw [Va (hpl f o n gg hfl) hvl (by simp [hl.1]; exact h2), hc]
   exact e3
 | [], _ :: _, _, _, h, _, _, _ => h.elim
 | _ :: _, [], _, _, h, _, _, _ => h.elim
theorem Xf7 {E : Env} (hE : ∀ t i, E.ty t = some i → TyOk P t i) (hB : ∀ t i, E.ty t = some i → i.agg = true → BldOk P t (E.fld t)) {t : Nat} {ps : List (Nat × A)} {vs : Array (Nat × Value)}
  (hx : PartsR w g σ.mem ps vs.toList) {K : A → St → Option γ} (hr : (Xgh E t ps).run tab σ K = some r) :
  ∃ z q, K z σ = some r ∧ (Instr.build t vs).run P w = .ok q w ∧ AR w g σ.mem z q := by
 unfold Xgh at hr
 split at hr
 ·rename_i ty eb hty
  rw [run_bind] at hr
  obtain ⟨place, it, z, h1, h2, h3, h4⟩ := (hB t _ hty rfl).ok
  obtain ⟨f, hf, hsz, z', hz, hzc⟩ := (hE t _ hty).info
  rw [h1] at hf; cases hf
  rw [h2] at hz; cases hz
  obtain ⟨cs, us, hr, hl, hfill⟩ := Na h4 hx (Xb9 ty) hr
  refine ⟨_, _, hr, run_build w t vs us.toArray ?_, us, rfl, hl⟩
  rw [h3]
  have : z.cells = (zv ty).toArray := by apply Array.toList_inj.1; simpa using hzc
  rw [this]
  exact hfill
 ·simp [Pg.run] at hr
def Qz : List (List Leaf) → List (List Value) → List (List (List Nat)) → Hand
 | c :: cs, v :: vs, b :: bs => hz c v b ++ Qz cs vs bs
 | _, _, _ => []
def Xpb : List (List Leaf) → List (List Value) → List (List (List Nat)) → Prop
 | [], [], [] => True
 | c :: cs, v :: vs, b :: bs => (c.length = v.length ∧ b.length = v.length) ∧ Xpb cs vs bs
 | _, _, _ => False
def SeqV (i : Nat) : List (Nat × Value) → List (List Value) → Prop
 | [], [] => True
 | p :: ps, v :: vs => (p.1 = i ∧ p.2.cells.toList = v) ∧ SeqV (i + 1) ps vs
 | _, _ => False
theorem PartsR.step {w' : World} {g' : Gh} {mem mem' : Mem} (h : Step w g mem w' g' mem') (hw : ∀ b, g.S b → w'.heap[b]? = w.heap[b]?) : ∀ {ps : List (Nat × A)} {vs : List (Nat × Value)},
  PartsR w g mem ps vs → PartsR w' g' mem' ps vs
 | [], [], _ => trivial
 | _ :: _, _ :: _, ⟨⟨h1, h2⟩, h3⟩ => ⟨⟨h1, h2.step h hw⟩, h3.step h hw⟩
 | [], _ :: _, h => h.elim
 | _ :: _, [], h => h.elim
theorem Lf : ∀ {ps : List (Nat × A)} {vs : List (Nat × Value)} {i : Nat} {g : Gh} {σ : St} {H : Hand} (h : Rel w g σ ts H) (hx : PartsR w g σ.mem ps vs)
  {K : List (List Leaf) → St → Option γ} (hr : (K4 i ps).run tab σ K = some r),
  ∃ css vss bsss g' σ', K css σ' = some r ∧ css.length = ps.length ∧ Xpb css vss bsss ∧ SeqV i vs vss ∧ Rel w g' σ' ts (Qz css vss bsss ++ H) ∧ Mv w g σ H w g' σ' (Qz css vss bsss ++ H)
 | [], [], i, g, σ, H, h, hx, K, hr => ⟨[], [], [], g, σ, hr, rfl, trivial, trivial, h, Mv.refl _ _ _ _⟩
 | (j, x) :: ps, (j', v) :: vs, i, g, σ, H, h, ⟨⟨hj, hx⟩, hps⟩, K, hr => by
  simp only at hj
  subst hj
  simp only [K4, run_bind] at hr
  obtain ⟨hij, hr2⟩ := An hr
  clear hr
  have hij : i = j := Nat.eq_of_beq_eq_true hij
  subst hij
  have hr := hr2
  clear hr2
  obtain ⟨cs, ys, hr, hls, hk⟩ := Fz hx hr
  have hc := Xbb hls hk
  obtain ⟨cs', bss, g1, σ1, hr, l1, l2, h1, m1⟩ := Cu h hls hr
  obtain ⟨css, vss, bsss, g2, σ2, hr, l3, sz, sq, h2, m2⟩ := Lf h1 (hps.step m1.st fun _ _ => rfl) hr
  have hp : (Qz css vss bsss ++ (hz cs' ys bss ++ H)).Perm (Qz (cs' :: css) (ys :: vss) (bss :: bsss) ++ H) := by
   simp only [Qz, List.append_assoc]
   rw [← List.append_assoc, ← List.append_assoc]
   exact List.Perm.append_right H List.perm_append_comm
  exact ⟨cs' :: css, ys :: vss, bss :: bsss, g2, σ2, hr, by simp [l3], ⟨⟨by rw [l1, hls.1], by rw [l2, hls.1]⟩, sz⟩, ⟨⟨rfl, hc⟩, sq⟩, h2.perm hp, (m1.trans m2).perm hp⟩
 | [], _ :: _, _, _, _, _, _, h, _, _ => h.elim
 | _ :: _, [], _, _, _, _, _, h, _, _ => h.elim
theorem Qf {S : Nat → Prop} {m : Mode} (hm : m ≠ .rox) {e : Ty} : ∀ {css : List (List Leaf)} {vss : List (List Value)} {bsss : List (List (List Nat))} {l : List (den e)},
  Ln m e css = some l → Xpb css vss bsss → (∀ z ∈ Qz css vss bsss, LfV w S z.1 z.2.1 z.2.2) → (Hand.bs (Qz css vss bsss)).Nodup →
  ∃ bss : List (List Nat), bss.length = l.length ∧ vss.length = l.length ∧ List.Sublist bss.flatten (Hand.bs (Qz css vss bsss)) ∧
   ∀ (i : Nat) (x : den e) (v : List Value) (b' : List Nat), l[i]? = some x → vss[i]? = some v → bss[i]? = some b' →
    Rd w (fun b => S b ∨ b ∈ Hand.bs (Qz css vss bsss) ∧ b ∉ bss.flatten) e m x v b'
 | [], [], [], l, h, _, _, _ => by
  simp only [Ln, Option.some.injEq] at h
  subst h
  exact ⟨[], rfl, rfl, by simp, by simp⟩
 | c :: css, v :: vss, b :: bsss, l, h, ⟨⟨s1, s2⟩, s3⟩, hand, hnd => by
  simp only [Ln] at h
  split at h <;> try (simp at h; done)
  rename_i x hx
  split at h <;> try (simp at h; done)
  rename_i l' hl'
  simp only [Option.some.injEq] at h
  subst h
  have hbs : Hand.bs (Qz (c :: css) (v :: vss) (b :: bsss)) = b.flatten ++ Hand.bs (Qz css vss bsss) := by
   simp only [Qz, Hand.bs_append, Un s1 s2]
  rw [hbs] at hnd ⊢
  obtain ⟨n1, n2, n3⟩ := List.nodup_append.1 hnd
  have hcs : Cs w S c v b := Sr s1 s2 fun z hz => hand z (by simp only [Qz, List.mem_append]; exact .inl hz)
  obtain ⟨bs0, hs0, hr0⟩ := Xad hm hx hcs n1
  obtain ⟨bss, l1, l2, hs1, hr1⟩ := Qf hm hl' s3 (fun z hz => hand z (by simp only [Qz, List.mem_append]; exact .inr hz)) n2
  refine ⟨bs0 :: bss, by simp [l1], by simp [l2], by simpa using hs0.append hs1, ?_⟩
  intro i x' v' b' h1 h2 h3
  cases i with
  | zero =>
   simp at h1 h2 h3
   subst h1; subst h2; subst h3
   refine hr0.imp (fun q hq => hq.imp id fun hq => ⟨List.mem_append_left _ hq.1, ?_⟩) fun _ _ => rfl
   simp only [List.flatten_cons, List.mem_append, not_or]
   exact ⟨hq.2, fun h5 => n3 q hq.1 q (hs1.subset h5) rfl⟩
  | succ i =>
   simp only [List.getElem?_cons_succ] at h1 h2 h3
   refine (hr1 i x' v' b' h1 h2 h3).imp (fun q hq => hq.imp id fun hq => ⟨List.mem_append_right _ hq.1, ?_⟩) fun _ _ => rfl
   simp only [List.flatten_cons, List.mem_append, not_or]
   exact ⟨fun h5 => n3 q (hs0.subset h5) q hq.1 rfl, hq.2⟩
 | [], [], _ :: _, _, _, h, _, _ => h.elim
 | [], _ :: _, _, _, _, h, _, _ => h.elim
 | _ :: _, [], _, _, _, h, _, _ => h.elim
 | _ :: _, _ :: _, [], _, _, h, _, _ => h.elim
theorem Xbg {sz : Nat} : ∀ {vs : List (Nat × Value)} {vss : List (List Value)} {i : Nat} {dn rest : List Value}, SeqV i vs vss → (∀ v ∈ vss, v.length = sz) → dn.length = i * sz → rest.length = vs.length * sz →
  Instr.fill (fun i => some (i * sz, sz)) (dn ++ rest).toArray vs = some (dn ++ vss.flatten).toArray
 | [], [], i, dn, rest, _, _, hd, hr => by
  have : rest = [] := List.length_eq_zero_iff.1 (by simpa using hr)
  subst this
  simp [Instr.fill]
 | (j, v) :: vs, u :: vss, i, dn, rest, ⟨⟨hj, hv⟩, hs⟩, hl, hd, hr => by
  simp only at hj hv
  subst hj
  have hu := hl u (by simp)
  have hvs : v.cells.size = sz := by rw [← Array.length_toList, hv, hu]
  simp only [List.length_cons, Nat.add_mul, Nat.one_mul] at hr
  rw [Va (off := j * sz) (sz := sz) rfl hvs (by simp; omega)]
  have e1 : (dn ++ rest).take (j * sz) = dn := by rw [← hd]; simp
  have e2 : (dn ++ rest).drop (j * sz + sz) = rest.drop sz := by rw [← hd, List.drop_append]; simp
  simp only [e1, e2, hv]
  rw [Xbg hs (fun v hv => hl v (List.mem_cons_of_mem _ hv)) (by simp [hd, hu, Nat.add_mul]) (by simp; omega)]
  simp
 | [], _ :: _, _, _, _, h, _, _, _ => h.elim
 | _ :: _, [], _, _, _, h, _, _, _ => h.elim
theorem SeqV.len : ∀ {i : Nat} {vs : List (Nat × Value)} {vss : List (List Value)}, SeqV i vs vss → vss.length = vs.length
 | _, [], [], _ => rfl
 | i, _ :: _, _ :: _, ⟨_, h⟩ => by simp [h.len]
 | _, [], _ :: _, h => h.elim
 | _, _ :: _, [], h => h.elim
theorem PartsR.len {mem : Mem} : ∀ {ps : List (Nat × A)} {vs : List (Nat × Value)}, PartsR w g mem ps vs → vs.length = ps.length
 | [], [], _ => rfl
 | _ :: _, _ :: _, ⟨_, h⟩ => by simp [h.len]
 | [], _ :: _, h => h.elim
 | _ :: _, [], h => h.elim
theorem H6 {E : Env} (hE : ∀ t i, E.ty t = some i → TyOk P t i) (h : Rel w g σ ts []) {t d n : Nat} {ps : List (Nat × A)} {vs : Array (Nat × Value)}
  (hx : PartsR w g σ.mem ps vs.toList) {K : A → St → Option γ} (hr : (I4 E t d n ps).run tab σ K = some r) :
  ∃ z q w' g' σ', K z σ' = some r ∧ (Instr.buildSlice t n vs).run P w = .ok q w' ∧ Rel w' g' σ' ts [] ∧ AR w' g' σ'.mem z q ∧ Mv w g σ [] w' g' σ' [] ∧ Frm w g w' := by
 unfold I4 at hr
 split at hr
 ·rename_i e eb hty
  rw [run_bind] at hr
  obtain ⟨hlit, k1⟩ := An hr
  simp only [Bool.and_eq_true] at hlit
  have hpn : ps.length = n := Nat.eq_of_beq_eq_true hlit.1
  have hbig : n * wd e ≤ 16777216 := Nat.le_of_ble_eq_true hlit.2
  obtain ⟨te, f, hu, hf, hfs, _, zz, hz, hzc⟩ := (hE t _ hty).sl e rfl rfl
  rw [run_bind] at k1
  obtain ⟨css, vss, bsss, g1, σ1, k2, l0, sz, sq, h1, m1⟩ := Lf h hx k1
  rw [List.append_nil] at h1 m1
  have hvl : vss.length = n := by rw [sq.len, hx.len, hpn]
  have hfin : ∃ m m' l, m ≠ .rox ∧ m'.isOwn = true ∧ m'.nest = m ∧ Ln m e css = some l ∧ ((Co (G3 * d) (.s m' e l)).bind Db).run tab σ1 K = some r := by
   split at k2
   ·rename_i l hl
    exact ⟨.own, .own, l, by simp, rfl, rfl, hl, k2⟩
   ·split at k2
    ·rename_i l hl
     exact ⟨.ro, .sown, l, by simp, rfl, rfl, hl, k2⟩
    ·simp [Pg.run] at k2
  obtain ⟨m, m', l, hm, hm', hmn, hl, hr⟩ := hfin
  obtain ⟨bss, b1, b2, b3, b4⟩ := Qf hm hl sz (fun z hz => h1.hand z hz) h1.hnd
  have hln : l.length = n := by rw [← b2, hvl]
  have hvw : ∀ v ∈ vss, v.length = wd e := by
   intro v hv
   obtain ⟨i, hi, rfl⟩ := List.mem_iff_getElem.1 hv
   have hi1 : i < l.length := by omega
   have hi2 : i < bss.length := by omega
   exact X4x (b4 i l[i] vss[i] bss[i] (List.getElem?_eq_getElem hi1) (List.getElem?_eq_getElem hi) (List.getElem?_eq_getElem hi2))
  have hrun : (Instr.buildSlice t n vs).run P w = .ok (.slice (some ⟨w.heap.size, 0, none⟩) n n) (Ed w vss.flatten.toArray te) := by
   have hfill : ∀ z : Array Value, z.size = n * wd e → Instr.fill (fun i => some (i * f.size, f.size)) z vs.toList = some vss.flatten.toArray := by
    intro z hzs
    have := Xbg (sz := wd e) (dn := []) (rest := z.toList) sq hvw (by simp) (by simp [hzs, hx.len, hpn])
    simpa [hfs] using this
   by_cases h0 : n * wd e = 0
   ·have := hfill ((Array.range 0).map (fun _ => (default : Value))) (by simp [h0])
    rw [hfs] at this
    simp [Instr.buildSlice, Ao hu, Bn hf, hfs, h0]
    rw [this]
    simp [G9]
   ·have hbig' : ¬ (2 ^ 24 < n * wd e) := by omega
    have := hfill ((Array.range (n * wd e)).map (zz.cells[· % zz.cells.size]!)) (by simp)
    rw [hfs] at this
    simp [Instr.buildSlice, Ao hu, Bn hf, hfs, h0, hbig, zeroValue, Ht hf, hz]
    rw [if_neg (by omega), this]
    simp [G9]
  obtain ⟨g2, h2, m2, _, _⟩ := Nt (w' := Ed w vss.flatten.toArray te) (cs := vss.flatten.toArray) (te := te) (m := m') (l := l) (c := n) (bss := bss) h1 rfl ⟨rfl, rfl, rfl⟩ hm' (by omega)
   (by simp [Cr hvw, hvl]) b1 (fun b hb => b3.subset hb) (List.Nodup.sublist b3 h1.hnd) (by
    intro i x b' hx hb'
    have hi : i < vss.length := by have := (List.getElem?_eq_some_iff.1 hx).1; omega
    refine ⟨vss[i], hvw _ (List.getElem_mem hi), fun j hj => ?_, ?_⟩
    ·have := Ie hvw i j hj
     rw [List.getElem?_eq_getElem hi] at this
     simpa using this
    ·rw [hmn]
     exact b4 i x _ b' hx (List.getElem?_eq_getElem hi) hb')
  rw [run_bind] at hr
  obtain ⟨z, g3, σ3, hr, h3, m3, hz3, _, _⟩ := B3 h2 hr
  rw [hln] at hz3
  exact ⟨_, _, _, g3, σ3, hr, hrun, h3, hz3, (m1.trans m2).trans m3, Frm.push rfl⟩
 ·simp [Pg.run] at hr
theorem Ux {f : Nat} {caps : List A} {ys : List Value} (hx : ArgsR w g σ.mem caps ys) {K : A → St → Option γ} (hr : (Ky (.func f) caps).run tab σ K = some r) :
  ∃ z, K z σ = some r ∧ AR w g σ.mem z (.func (.func f) #[] ys.toArray) := by
 simp only [Ky, run_bind] at hr
 have key : ∀ {caps : List A} {ys : List Value} {K : List (Loc × Nat × Nat) → St → Option γ}, ArgsR w g σ.mem caps ys →
   (Pg.mapL (fun x => match x with | A.one (.ptr p n v0) => Pg.ret (p, n, v0) | _ => Pg.fail) caps).run tab σ K = some r →
   ∃ cs, K cs σ = some r ∧ ys.length = cs.length ∧ ∀ (i : Nat) (p : Loc) (n v0 : Nat) (z : Value), cs[i]? = some (p, n, v0) → ys[i]? = some z → POk g σ.mem p n v0 z := by
  intro caps
  induction caps with
  | nil =>
   intro ys K hx hr
   cases ys with
   | nil => exact ⟨[], hr, rfl, by simp⟩
   | cons y ys => exact hx.elim
  | cons c caps ih =>
   intro ys K hx hr
   cases ys with
   | nil => exact hx.elim
   | cons y ys =>
    simp only [Pg.mapL, run_bind] at hr
    split at hr
    ·rename_i p n v0
     obtain ⟨cs, h1, h2, h3⟩ := ih hx.2 hr
     refine ⟨_, h1, by simp [h2], fun i p' n' v0' z h4 h5 => ?_⟩
     cases i with
     | zero => simp at h4 h5; obtain ⟨rfl, rfl, rfl⟩ := h4; subst h5; exact (show LfR w g σ.mem (.ptr p n v0) y [] from hx.1).2
     | succ i => exact h3 i p' n' v0' z (by simpa using h4) (by simpa using h5)
    ·simp [Pg.run] at hr
 obtain ⟨cs, h1, h2, h3⟩ := key hx hr
 exact ⟨_, h1, rfl, ys, rfl, h2, h3⟩
end
end Go.Rf
end

section
set_option linter.unusedVariables false
set_option linter.unusedSimpArgs false
namespace Go.Rf
theorem Xpu {w : World} {S : Nat → Prop} : ∀ {t : Ty} {cs r : List Leaf} {x : den t} {vs : List Value} {bss : List (List Nat)},
  N8 .own t cs = some (x, r) → Cs w S cs vs bss →
  ∃ v1 v2 b1 b2, vs = v1 ++ v2 ∧ bss = b1 ++ b2 ∧ Cs w S r v2 b2 ∧ Rd w S t .own x v1 b1.flatten := by
 intro t
 induction t with
 | int k =>
  intro cs r x vs bss h hc
  obtain ⟨c, rfl, hf⟩ := Bp h
  obtain ⟨y, q, vs', bss', rfl, rfl, h1, h2⟩ := Fy hc
  unfold Xlm at hf
  split at hf <;> try (simp at hf; done)
  rename_i k' n
  cases hk : ikb k k' with
  | false => rw [hk] at hf; simp at hf
  | true =>
   rw [hk] at hf; simp only [cond_true, Option.some.injEq] at hf
   subst hf
   obtain ⟨rfl, rfl⟩ := h1
   exact ⟨[_], vs', [[]], bss', rfl, rfl, h2, by rw [L5 hk], rfl⟩
 | bool =>
  intro cs r x vs bss h hc
  obtain ⟨c, rfl, hf⟩ := Bp h
  obtain ⟨y, q, vs', bss', rfl, rfl, h1, h2⟩ := Fy hc
  unfold Xj6 at hf
  split at hf <;> try (simp at hf; done)
  simp only [Option.some.injEq] at hf
  subst hf
  obtain ⟨rfl, rfl⟩ := h1
  exact ⟨[_], vs', [[]], bss', rfl, rfl, h2, rfl, rfl⟩
 | str =>
  intro cs r x vs bss h hc
  obtain ⟨c, rfl, hf⟩ := Bp h
  obtain ⟨y, q, vs', bss', rfl, rfl, h1, h2⟩ := Fy hc
  unfold Xk1 at hf
  split at hf <;> try (simp at hf; done)
  simp only [Option.some.injEq] at hf
  subst hf
  obtain ⟨rfl, rfl⟩ := h1
  exact ⟨[_], vs', [[]], bss', rfl, rfl, h2, rfl, rfl⟩
 | sl e ih =>
  intro cs r x vs bss h hc
  obtain ⟨c, rfl, hf⟩ := Bp h
  obtain ⟨y, q, vs', bss', rfl, rfl, h1, h2⟩ := Fy hc
  unfold Xkw at hf
  split at hf <;> try (simp at hf; done)
  ·rename_i n u l
   cases n with
   | own =>
    simp only [L2, cond_true] at hf
    split at hf <;> try (simp at hf; done)
    rename_i hu
    subst hu
    simp only [Option.some.injEq] at hf
    subst hf
    have h3 : Rd w S (.sl u) .own l [y] q := h1
    exact ⟨[y], vs', [q], bss', rfl, rfl, h2, by simpa using h3⟩
   | _ => simp [L2] at hf
  ·simp only [Option.some.injEq] at hf
   subst hf
   obtain ⟨rfl, rfl⟩ := h1
   exact ⟨[_], vs', [[]], bss', rfl, rfl, h2, _, rfl, none, 0, rfl, Nat.le_refl _, fun _ => rfl, .inl ⟨.inl rfl, rfl, rfl, rfl⟩⟩
 | pair a b iha ihb =>
  intro cs r x vs bss h hc
  simp only [N8] at h
  split at h <;> try (simp at h; done)
  rename_i y r1 h1
  split at h <;> try (simp at h; done)
  rename_i z r2 h2
  simp only [Option.some.injEq, Prod.mk.injEq] at h
  obtain ⟨rfl, rfl⟩ := h
  obtain ⟨v1, v2, b1, b2, rfl, rfl, hc2, hr1⟩ := iha h1 hc
  obtain ⟨v3, v4, b3, b4, rfl, rfl, hc3, hr2⟩ := ihb h2 hc2
  exact ⟨v1 ++ v3, v4, b1 ++ b3, b4, by simp, by simp, hc3, v1, v3, _, _, rfl, by simp, hr1, hr2⟩
theorem Xze {w : World} {S : Nat → Prop} {t : Ty} {cs : List Leaf} {x : den t} {vs : List Value} {bss : List (List Nat)}
  (h : M0 .own t cs = some x) (hc : Cs w S cs vs bss) : Rd w S t .own x vs bss.flatten := by
 unfold M0 at h
 split at h <;> try (simp at h; done)
 rename_i y hd
 simp only [Option.some.injEq] at h
 subst h
 obtain ⟨v1, v2, b1, b2, rfl, rfl, h2, h3⟩ := Xpu hd hc
 have : v2 = [] ∧ b2 = [] := by
  cases v2 <;> cases b2 <;> simp_all [Cs]
 obtain ⟨rfl, rfl⟩ := this
 simpa using h3
section
variable {P : Program} {w : World} {g : Gh} {σ : St} {ts : Array Value} {H : Hand}
theorem Rel.openElem (h : Rel w g σ ts H) {k i c v0 v1 : Nat} {t u : Ty} {l : List (den t)} {n : Mode} {l' : List (den u)}
  (he : σ.mem k = some ⟨.s .own t l, v0, v1⟩) (hi : i < l.length) (hc : Dw (enc .own t (nthD l i (Be t))) c = some (.s n u l')) {v : Value} (hv : hdrAt w g σ.mem (.elem k i c) = some v) :
  n = .own ∧ ∃ q rest, LfV w g.S (.s n u l') v q ∧ (g.bl k).Perm (q ++ rest) ∧
   ∀ (w' : World) (S' : Nat → Prop), (∀ b, g.S b → S' b) → (∀ b, g.S b ∨ b ∈ rest → w'.heap[b]? = w.heap[b]?) →
    ∀ (y : Leaf) (bq : List Nat) (z : den t), LfV w' S' y v bq → M0 .own t (Cb (enc .own t (nthD l i (Be t))) c [y]) = some z →
    ∃ bs, bs.Perm (bq ++ rest) ∧ Rd w' S' (.sl t) .own (l.set i z) [g.hv k] bs := by
 obtain ⟨y', hy', hs⟩ := (h.mem k _ he : Rd w g.S (.sl t) .own l [g.hv k] (g.bl k))
 simp only [List.cons.injEq, and_true] at hy'
 subst hy'
 obtain ⟨ad, cap, hy, hcap, hx, hr⟩ := hs
 rcases hr with ⟨_, hl, _, _⟩ | ⟨b, o, bss0, rfl, hlen, ho, hro, hh, hel⟩
 ·rw [hl] at hi; simp at hi
 obtain ⟨hbk, hblk⟩ := ho rfl
 have hib : i < bss0.length := by omega
 obtain ⟨vs0, hv0, hcell0, hx0⟩ := hel i l[i] bss0[i] (by simp) (List.getElem?_eq_getElem hi) (List.getElem?_eq_getElem hib)
 obtain ⟨b0, hcs0, hfl0⟩ := hx0.cs
 have hn0 : nthD l i (Be t) = l[i] := by rw [Bw]; simp [List.getD, hi]
 rw [hn0] at hc ⊢
 rw [Cc] at hc
 have hown : n = .own := by
  have key : ∀ (t : Ty) (x : den t) (c : Nat) (n : Mode) (u : Ty) (l' : List (den u)), (enc .own t x)[c]? = some (.s n u l') → n = .own := by
   intro t
   induction t with
   | pair a b iha ihb =>
    intro x c n u l' h1
    simp only [enc] at h1
    by_cases hp : c < (enc .own a x.1).length
    ·rw [List.getElem?_append_left hp] at h1; exact iha _ _ _ _ _ h1
    ·rw [List.getElem?_append_right (by omega)] at h1; exact ihb _ _ _ _ _ h1
   | sl e _ => intro x c n u l' h1; cases c with
    | zero => simp [enc] at h1; exact h1.1.symm
    | succ c => simp [enc] at h1
   | _ => intro x c n u l' h1; cases c with
    | zero => simp [enc] at h1
    | succ c => simp [enc] at h1
  exact key _ _ _ _ _ _ hc
 obtain ⟨y, q, hyv, hq, hlf⟩ := G6 hcs0 hc
 have hcw : c < wd t := by rw [← A8 .own t l[i]]; exact (List.getElem?_eq_some_iff.1 hc).1
 have hyv' : y = v := by
  simp only [hdrAt, hy, he] at hv
  have h1 := hcell0 c hcw
  rw [h1, hyv] at hv
  exact Option.some.inj hv
 subst hyv'
 have hcb : c < b0.length := (List.getElem?_eq_some_iff.1 hq).1
 have hqe : b0[c] = q := (List.getElem?_eq_some_iff.1 hq).2
 have hcnt0 := fun p (b' : List Nat) => Cw p b0 c hcb b'
 have hcnt1 := fun p (b' : List Nat) => Cw p bss0 i hib b'
 rw [hqe] at hcnt0
 refine ⟨hown, q, b :: (bss0.set i (b0.set c []).flatten).flatten, hlf, ?_, ?_⟩
 ·rw [List.perm_iff_count]
  intro p
  have h1 := hcnt0 p []
  have h2 := hcnt1 p (b0.set c []).flatten
  rw [hfl0] at h2
  rw [hbk]
  simp only [List.count_append, List.count_cons, List.count_nil] at h1 h2 ⊢
  omega
 ·intro w' S' hS hw y2 bq z hy2 hd
  have hbw : w'.heap[b]? = w.heap[b]? := hw b (.inr List.mem_cons_self)
  have hbel : ∀ (j : Nat) (b' : List Nat), j ≠ i → bss0[j]? = some b' → ∀ p ∈ b', w'.heap[p]? = w.heap[p]? := fun j b' hj hb' p hp => by
   refine hw p (.inr (List.mem_cons_of_mem _ (List.mem_flatten.2 ⟨b', ?_, hp⟩)))
   have : (bss0.set i (b0.set c []).flatten)[j]? = some b' := by rw [List.getElem?_set_ne (Ne.symm hj)]; exact hb'
   exact List.mem_of_getElem? this
  have hb0w : ∀ (j : Nat) (b' : List Nat), j ≠ c → b0[j]? = some b' → ∀ p ∈ b', w'.heap[p]? = w.heap[p]? := fun j b' hj hb' p hp => by
   refine hw p (.inr (List.mem_cons_of_mem _ (List.mem_flatten.2 ⟨(b0.set c []).flatten, ?_, List.mem_flatten.2 ⟨b', ?_, hp⟩⟩)))
   ·exact List.mem_of_getElem? (i := i) (by rw [List.getElem?_set_self hib])
   ·exact List.mem_of_getElem? (i := j) (by rw [List.getElem?_set_ne (Ne.symm hj)]; exact hb')
  have hel0 := A8 .own t l[i]
  have hb0l : b0.length = vs0.length := (Ji hcs0).2
  obtain ⟨t1, _⟩ := J8 hcs0 c
  obtain ⟨_, t3⟩ := J8 hcs0 (c + 1)
  have hvsp : vs0 = vs0.take c ++ [y] ++ vs0.drop (c + 1) := by
   have h2 : c < vs0.length := by omega
   have h3 : vs0[c] = y := (List.getElem?_eq_some_iff.1 hyv).2
   rw [← h3, List.append_assoc]
   simp
  have hcsp : Cs w' S' (Cb (enc .own t l[i]) c [y2]) vs0 (b0.take c ++ [bq] ++ b0.drop (c + 1)) := by
   rw [hvsp]
   refine Eo (Eo (F8 hS t1 fun p hp => ?_) ⟨hy2, trivial⟩) (F8 hS t3 fun p hp => ?_)
   ·rcases hp with hp | hp
    ·exact hw p (.inl hp)
    ·obtain ⟨b', hb', hp⟩ := List.mem_flatten.1 hp
     obtain ⟨j, hj, rfl⟩ := List.mem_iff_getElem.1 hb'
     have hjc : j < c := by simp at hj; omega
     exact hb0w j _ (by omega) (by rw [List.getElem_take]; exact List.getElem?_eq_getElem (by omega)) p hp
   ·rcases hp with hp | hp
    ·exact hw p (.inl hp)
    ·obtain ⟨b', hb', hp⟩ := List.mem_flatten.1 hp
     obtain ⟨j, hj, rfl⟩ := List.mem_iff_getElem.1 hb'
     exact hb0w (c + 1 + j) _ (by omega) (by rw [List.getElem_drop]; exact List.getElem?_eq_getElem _) p hp
  have hz := Xze hd hcsp
  refine ⟨b :: (bss0.set i (b0.take c ++ [bq] ++ b0.drop (c + 1)).flatten).flatten, ?_, _, rfl, some ⟨b, o, none⟩, cap, by rw [hy]; simp, by simpa using hcap, (fun h => by cases h), .inr
   ⟨b, o, bss0.set i (b0.take c ++ [bq] ++ b0.drop (c + 1)).flatten, rfl, by simp [hlen], fun _ => ⟨rfl, hblk.same hbw⟩, (fun h => by cases h), by simp, ?_⟩⟩
  ·rw [List.perm_iff_count]
   intro p
   have h1 := hcnt0 p []
   have h2 := hcnt1 p (b0.set c []).flatten
   have h3 := hcnt1 p (b0.take c ++ [bq] ++ b0.drop (c + 1)).flatten
   have h4 : b0.set c bq = b0.take c ++ [bq] ++ b0.drop (c + 1) := by rw [List.set_eq_take_append_cons_drop, if_pos hcb]; simp
   have h5 := hcnt0 p bq
   rw [h4] at h5
   simp only [List.count_append, List.count_cons, List.count_nil] at h1 h2 h3 h5 ⊢
   omega
  ·intro j x b' _ hjx hjb
   have hjl : j < l.length := by have := (List.getElem?_eq_some_iff.1 hjx).1; simpa using this
   by_cases hji : j = i
   ·subst hji
    have hx : x = z := by rw [List.getElem?_set_self hi] at hjx; exact (Option.some.inj hjx).symm
    have hb' : b' = (b0.take c ++ [bq] ++ b0.drop (c + 1)).flatten := by rw [List.getElem?_set_self hib] at hjb; exact (Option.some.inj hjb).symm
    subst hx; subst hb'
    exact ⟨vs0, hv0, fun p hp => by rw [A4 hbw]; exact hcell0 p hp, hz⟩
   ·rw [List.getElem?_set_ne (Ne.symm hji)] at hjx hjb
    obtain ⟨vs1, hv1, hc1, hx1⟩ := hel j x b' (by simp) hjx hjb
    refine ⟨vs1, hv1, fun p hp => by rw [A4 hbw]; exact hc1 p hp, hx1.imp hS fun p hp => ?_⟩
    exact hp.elim (fun h => hw p (.inl h)) (hbel j b' hji hjb p)
variable {tab : Tab} {γ : Type} {r : γ}
theorem Fu (h : Rel w g σ ts []) {k : Nat} {K : Unit → St → Option γ} (hr : (Kf k).run tab σ K = some r) :
  ∃ g' σ', K () σ' = some r ∧ Rel w g' σ' ts [] ∧ Mv w g σ [] w g' σ' [] := by
 simp only [Kf, run_bind] at hr
 obtain ⟨e, he, hr⟩ := A2 hr
 split at hr
 ·rename_i q v0 v1 wi hc
  simp only [run_bind] at hr
  obtain ⟨hq, hr⟩ := An hr
  have hm := h.mem k e he
  rw [hc] at hm
  obtain ⟨x, bs, g1, σ1, hr, h1, m1, m, t, l, hx⟩ := Fm h (show _ ∧ _ from hm).2 hr
  obtain ⟨e1, he1, hr⟩ := A2 hr
  simp only [Pg.run] at hr
  have hH : Hand.bs [(x, g.hv k, bs)] = bs := by simp [Hand.bs]
  have hst : Step w g1 σ1.mem w { g1 with hv := Bu g1.hv k (g.hv k), bl := Bu g1.bl k bs } (σ1.setM k ⟨x, e1.v0 + 1, e1.v1⟩).mem :=
   Step.bump he1 (by simp) (Nat.le_refl _) (fun _ h => h) (fun _ _ h => h) (fun q hq => Ax _ _ hq)
  have hlf : LfV w g1.S x (g.hv k) bs := h1.hand _ List.mem_cons_self
  refine ⟨_, _, hr, h1.setKey hst rfl (fun q hq => Ax _ _ hq) (fun q hq => Ax _ _ hq) (fun b o ha => ?_) ?_ (fun b hb => .inl hb) (fun b hb => (h1.st b hb).2.2) ?_ ?_ ?_ (by simp),
   m1.trans ⟨hst, ?_, fun _ h => .inl h, fun _ _ h => .inl h, Nat.le_refl _, Io.refl _⟩⟩
  ·simp only [Ac]
   rcases m1.ad k _ ha with h5 | h5
   ·have a1 := (h.cell k b o h5).1
    have a2 := (h1.cell k b o ha).1
    rw [a1] at a2
    exact Option.some.inj a2
   ·have := h1.adlt ha; simp only at h5; omega
  ·simp only [Ac]
   subst hx
   exact hlf
  ·simp only [Ac]
   have := h1.hnd
   rw [hH] at this
   simpa [Hand.bs] using this
  ·intro b hb
   simp only [Ac] at hb
   rcases hb with hb | hb
   ·exact .inr (by rw [hH]; exact hb)
   ·cases hb
  ·intro b hb
   simp only [Ac]
   exact ⟨fun h2 => (h1.st b hb).2.1 (by rw [hH]; exact h2), fun h2 => by cases h2⟩
  ·rintro b (⟨q, hq⟩ | hq)
   ·by_cases hqk : q = k
    ·subst hqk; simp only [Ac] at hq; exact .inl (.inr (by rw [hH]; exact hq))
    ·simp only [Ax _ _ hqk] at hq; exact .inl (.inl ⟨q, hq⟩)
   ·cases hq
 ·simp only [Pg.run] at hr
  exact ⟨g, σ, hr, h, Mv.refl _ _ _ _⟩
theorem Dk {α : Type} {f : α → Pg Unit} (hf : ∀ (a : α) {g : Gh} {σ : St} {K : Unit → St → Option γ}, Rel w g σ ts [] → (f a).run tab σ K = some r → ∃ g' σ', K () σ' = some r ∧ Rel w g' σ' ts [] ∧ Mv w g σ [] w g' σ' []) :
  ∀ (l : List α) {g : Gh} {σ : St} {K : Unit → St → Option γ}, Rel w g σ ts [] → (Pg.eachL f l).run tab σ K = some r → ∃ g' σ', K () σ' = some r ∧ Rel w g' σ' ts [] ∧ Mv w g σ [] w g' σ' []
 | [], g, σ, K, h, hr => ⟨g, σ, hr, h, Mv.refl _ _ _ _⟩
 | a :: l, g, σ, K, h, hr => by
  simp only [Pg.eachL, run_bind] at hr
  obtain ⟨g1, σ1, hr, h1, m1⟩ := hf a h hr
  obtain ⟨g2, σ2, hr, h2, m2⟩ := Dk hf l h1 hr
  exact ⟨g2, σ2, hr, h2, m1.trans m2⟩
theorem Xa8 {x : Loc × Nat × Nat} (h : Rel w g σ ts []) {K : Unit → St → Option γ} (hr : (Wj x).run tab σ K = some r) :
  ∃ g' σ', K () σ' = some r ∧ Rel w g' σ' ts [] ∧ Mv w g σ [] w g' σ' [] := by
 unfold Wj at hr
 split at hr
 ·exact Dk (fun a _ _ _ h hr => Fu h hr) _ h hr
 ·exact ⟨g, σ, hr, h, Mv.refl _ _ _ _⟩
theorem Xbt {x : A} (h : Rel w g σ ts []) {K : Unit → St → Option γ} (hr : (Yp x).run tab σ K = some r) :
  ∃ g' σ', K () σ' = some r ∧ Rel w g' σ' ts [] ∧ Mv w g σ [] w g' σ' [] := by
 unfold Yp at hr
 split at hr
 ·exact Dk (fun a _ _ _ h hr => Fu h hr) _ h hr
 ·exact Dk (fun a _ _ _ h hr => Xa8 h hr) _ h hr
 ·exact ⟨g, σ, hr, h, Mv.refl _ _ _ _⟩
theorem Xcc {κ : Nat × TK} (h : Rel w g σ ts []) {K : Unit → St → Option γ} (hr : (Xo κ).run tab σ K = some r) :
  ∃ g' σ', K () σ' = some r ∧ Rel w g' σ' ts [] ∧ Mv w g σ [] w g' σ' [] := by
 unfold Xo at hr
 split at hr
 ·rename_i k m t co
  rw [run_bind] at hr
  obtain ⟨g1, σ1, hr, h1, m1⟩ := Fu h hr
  rw [run_bind] at hr
  obtain ⟨e, he, hr⟩ := A2 hr
  split at hr
  ·rename_i hc
   simp only [Pg.run] at hr
   have hm := h1.mem k e he
   rw [hc] at hm
   obtain ⟨hv, hb⟩ := (hm : g1.hv k = _ ∧ g1.bl k = _)
   generalize hmo : cond (Xir m) Mode.sown Mode.own = mo at hr
   have hst : Step w g1 σ1.mem w g1 (σ1.setM k ⟨.s mo t [], e.v0 + 1, e.v1⟩).mem :=
    Step.bump he (by simp) (Nat.le_refl _) (fun _ h => h) (fun _ _ h => h) (fun _ _ => rfl)
   refine ⟨_, _, hr, h1.setKey hst rfl (fun _ _ => rfl) (fun _ _ => rfl) (fun _ _ _ => rfl) ?_ (fun b hb => .inl hb) (fun b hb => (h1.st b hb).2.2) ?_ (fun b hb => hb) (fun b hb => ⟨fun h2 => (h1.st b hb).1 k h2, fun h2 => by cases h2⟩) (by simp),
    m1.trans ⟨hst, fun _ h => .inl h, fun _ h => .inl h, fun _ _ h => .inl h, Nat.le_refl _, Io.refl _⟩⟩
   ·rw [hv, hb]
    exact ⟨_, rfl, none, 0, rfl, Nat.le_refl _, fun _ => rfl, .inl ⟨.inl rfl, rfl, rfl, rfl⟩⟩
   ·simpa [Hand.bs] using h1.nd k
  ·rename_i u l hc
   obtain ⟨ec, v0, v1⟩ := e
   simp only at hc hr
   subst hc
   cases hm : Xir m with
   | true =>
    rw [hm] at hr
    simp only [cond_true, Pg.run] at hr
    obtain ⟨g', h2, m2, _⟩ := h1.shareKey he rfl
    exact ⟨g', _, hr, h2, m1.trans m2⟩
   | false =>
    rw [hm] at hr
    simp only [cond_false, Pg.run] at hr
    exact ⟨g1, σ1, hr, h1, m1⟩
  ·exact ⟨g1, σ1, hr, h1, m1⟩
 ·rename_i k t
  rw [run_bind] at hr
  obtain ⟨g1, σ1, hr, h1, m1⟩ := Fu h hr
  rw [run_bind] at hr
  obtain ⟨e, he, hr⟩ := A2 hr
  split at hr
  ·rename_i hc
   simp only [Pg.run] at hr
   have hm := h1.mem k e he
   rw [hc] at hm
   obtain ⟨hv, hb⟩ := (hm : g1.hv k = _ ∧ g1.bl k = _)
   have hst : Step w g1 σ1.mem w g1 (σ1.setM k ⟨.s .ro t [], e.v0 + 1, e.v1⟩).mem :=
    Step.bump he (by simp) (Nat.le_refl _) (fun _ h => h) (fun _ _ h => h) (fun _ _ => rfl)
   refine ⟨_, _, hr, h1.setKey hst rfl (fun _ _ => rfl) (fun _ _ => rfl) (fun _ _ _ => rfl) ?_ (fun b hb => .inl hb) (fun b hb => (h1.st b hb).2.2) ?_ (fun b hb => hb) (fun b hb => ⟨fun h2 => (h1.st b hb).1 k h2, fun h2 => by cases h2⟩) (by simp),
    m1.trans ⟨hst, fun _ h => .inl h, fun _ h => .inl h, fun _ _ h => .inl h, Nat.le_refl _, Io.refl _⟩⟩
   ·rw [hv, hb]
    exact ⟨_, rfl, none, 0, rfl, Nat.le_refl _, fun h => (by cases h), .inl ⟨.inl rfl, rfl, rfl, rfl⟩⟩
   ·simpa [Hand.bs] using h1.nd k
  ·rename_i m u l hc
   obtain ⟨ec, v0, v1⟩ := e
   simp only at hc hr
   subst hc
   cases hm : m.isOwn with
   | true =>
    rw [hm] at hr
    simp only [cond_true, Pg.run] at hr
    obtain ⟨g', h2, m2, _⟩ := h1.freezeKey he
    exact ⟨g', _, hr, h2, m1.trans m2⟩
   | false =>
    rw [hm] at hr
    simp only [cond_false, Pg.run] at hr
    exact ⟨g1, σ1, hr, h1, m1⟩
  ·exact ⟨g1, σ1, hr, h1, m1⟩
 ·exact ⟨g, σ, hr, h, Mv.refl _ _ _ _⟩
end
end Go.Rf
end

section
set_option linter.unusedVariables false
set_option linter.unusedSimpArgs false
namespace Go.Rf
def RowsV (w : World) (S : Nat → Prop) : List (List Leaf) → List Value → List (List Nat) → Prop
 | [], [], [] => True
 | cs :: rs, v :: vs, b :: bs => (∃ bl o us bss, v = .pointer (some ⟨bl, o, none⟩) ∧ Cs w S cs us bss ∧ b = bss.flatten ∧ (∀ (j : Nat) (u : Value), us[j]? = some u → cellAt w bl (o + j) = some u) ∧ BlkOk w bl (o + us.length)) ∧ RowsV w S rs vs bs
 | _, _, _ => False
def XR (w : World) (S : Nat → Prop) : XL → Value → List Nat → Prop
 | .l x, v, bs => LfV w S x v bs
 | .b x, v, bs => (∃ m t l, x = .s m t l ∧ m.isOwn = true) ∧ LfV w S x v bs
 | .p cs, v, bs => ∃ b o us bss, v = .pointer (some ⟨b, o, none⟩) ∧ Cs w S cs us bss ∧ bs = bss.flatten ∧ (∀ (j : Nat) (u : Value), us[j]? = some u → cellAt w b (o + j) = some u) ∧ BlkOk w b (o + us.length)
 | .fn f [], v, bs => v = .func (.func f) #[] #[] ∧ bs = []
 | .fn f (r :: rs), v, bs => ∃ (vs : List Value) (bss : List (List Nat)), v = .func (.func f) #[] vs.toArray ∧ RowsV w S (r :: rs) vs bss ∧ bs = bss.flatten
def XRs (w : World) (S : Nat → Prop) : List XL → List Value → List (List Nat) → Prop
 | [], [], [] => True
 | x :: xs, v :: vs, b :: bs => XR w S x v b ∧ XRs w S xs vs bs
 | _, _, _ => False
def ArgV (w : World) (S : Nat → Prop) : Arg → Value → List Nat → Prop
 | .one x, v, bs => XR w S x v bs
 | .agg xs, v, bs => ∃ us bss, v = .agg us.toArray ∧ XRs w S xs us bss ∧ bs = bss.flatten
def ArgsV (w : World) (S : Nat → Prop) : List Arg → List Value → List (List Nat) → Prop
 | [], [], [] => True
 | x :: xs, v :: vs, b :: bs => ArgV w S x v b ∧ ArgsV w S xs vs bs
 | _, _, _ => False
def Mk (w : World) (S : Nat → Prop) : Bool × List Leaf → Value → List Nat → Prop
 | (false, [x]), z, bs => LfV w S x z bs
 | (true, xs), z, bs => ∃ us bss, z = .agg us.toArray ∧ Cs w S xs us bss ∧ bs = bss.flatten
 | _, _, _ => False
def Lb (w : World) (S : Nat → Prop) : List (Bool × List Leaf) → List Value → List (List Nat) → Prop
 | [], [], [] => True
 | x :: xs, v :: vs, b :: bs => Mk w S x v b ∧ Lb w S xs vs bs
 | _, _, _ => False
def Uz (w : World) (S : Nat → Prop) : A → Value → List Nat → Prop
 | .one x, z, bs => LfV w S x z bs
 | .agg xs, z, bs => Mk w S (true, xs) z bs
 | .tup xs, z, bs => ∃ us bss, z = .tuple us.toArray ∧ Lb w S xs us bss ∧ bs = bss.flatten
inductive Bk where
 | lent (v : Value)
 | row (b o n : Nat)
def bkF : List (List Leaf) → List Value → List Bk
 | cs :: rs, .pointer (some a) :: vs => .row a.block a.off cs.length :: bkF rs vs
 | _, _ => []
def bkX : XL → Value → List Bk
 | .b _, v => [.lent v]
 | .p cs, .pointer (some a) => [.row a.block a.off cs.length]
 | .fn _ (r :: rs), .func _ _ vs => bkF (r :: rs) vs.toList
 | _, _ => []
def Xkg : List XL → List Value → List Bk
 | x :: xs, v :: vs => bkX x v ++ Xkg xs vs
 | _, _ => []
def bkA : Arg → Value → List Bk
 | .one x, v => bkX x v
 | .agg xs, .agg us => Xkg xs us.toList
 | _, _ => []
def Mh : List Arg → List Value → List Bk
 | x :: xs, v :: vs => bkA x v ++ Mh xs vs
 | _, _ => []
def Ft (b : Nat) : Nat → Nat → List (Nat × Nat)
 | _, 0 => []
 | o, n + 1 => (b, o) :: Ft b (o + 1) n
def Bk.rows : Bk → List (Nat × Nat)
 | .lent _ => []
 | .row b o n => Ft b o n
def X80 (w : World) (S : Nat → Prop) : Bk → List Leaf → List Nat → Prop
 | .lent v, ys, bs => ∃ m t l, ys = [.s m t l] ∧ m.isOwn = true ∧ Rd w S (.sl t) m l [v] bs
 | .row b o n, ys, bs => ∃ us bss, us.length = n ∧ Cs w S ys us bss ∧ bs = bss.flatten ∧ ∀ (j : Nat) (u : Value), us[j]? = some u → cellAt w b (o + j) = some u
def BacksV (w : World) (S : Nat → Prop) : List Bk → List (List Leaf) → List (List Nat) → Prop
 | [], [], [] => True
 | k :: ks, y :: ys, b :: bs => X80 w S k y b ∧ BacksV w S ks ys bs
 | _, _, _ => False
def resBk (x : A) (v : Value) : List Bk :=
 match T8 x, v with
 | some (_, n), .pointer (some a) => [.row a.block a.off n]
 | _, _ => []
def ResP (w : World) (S : Nat → Prop) (x : A) (v : Value) (bs : List Nat) : Prop :=
 match T8 x with
 | some _ => (∃ b o, v = .pointer (some ⟨b, o, none⟩)) ∧ bs = []
 | none => Uz w S x v bs
structure Post (w : World) (S : Nat → Prop) (bk : List Bk) (own : List Nat) (w' : World) (x : A × List (List Leaf)) (v : Value) : Prop where
 ex : ∃ S' bs bbs, ResP w' S' x.1 v bs ∧ BacksV w' S' (bk ++ resBk x.1 v) x.2 bbs ∧ (bs ++ bbs.flatten).Nodup ∧ (∀ b ∈ bs ++ bbs.flatten, ¬ S' b) ∧ (∀ b, S b → S' b) ∧ (∀ b, S' b → b < w'.heap.size) ∧
  (∀ b, S' b → S b ∨ b ∈ own ∨ w.heap.size ≤ b) ∧ (∀ b ∈ bs ++ bbs.flatten, b ∈ own ∨ w.heap.size ≤ b) ∧
  (∀ a ∈ (resBk x.1 v).flatMap Bk.rows, w.heap.size ≤ a.1 ∧ ¬ S' a.1 ∧ a.1 ∉ bs ++ bbs.flatten ∧ BlkOk w' a.1 (a.2 + 1))
 sz : w.heap.size ≤ w'.heap.size
 io : Io w w'
 frm : ∀ q, q < w.heap.size → q ∉ own → ObjLike (fun o => (q, o) ∈ bk.flatMap Bk.rows) w.heap[q]? w'.heap[q]?
def Contract (P : Program) (f : Nat) (as : List Arg) (cr : CR) : Prop :=
 ∀ w S vals bss, ArgsV w S as vals bss → bss.flatten.Nodup → (∀ b ∈ bss.flatten, ¬ S b) → (∀ b, S b → b < w.heap.size) →
  ((Mh as vals).flatMap Bk.rows).Nodup → (∀ a ∈ (Mh as vals).flatMap Bk.rows, a.1 ∉ bss.flatten ∧ ¬ S a.1) →
  ∀ r, cr.o = some r → Calls P f vals.toArray w fun e w' => ∃ v, e = .returned v ∧ Post w S (Mh as vals) bss.flatten w' (cr.e r) v
def TabOk (P : Program) (tab : Tab) : Prop := ∀ f as cr, tab f as = some cr → Contract P f as cr
def Bor (g : Gh) (qs : List Nat) (b : Nat) : Prop := g.S b ∨ ∃ q ∈ qs, b ∈ g.bl q
theorem Bor.l {g : Gh} {q1 q2 : List Nat} {b : Nat} (h : Bor g q1 b) : Bor g (q1 ++ q2) b := h.imp id fun ⟨q, h1, h2⟩ => ⟨q, List.mem_append_left _ h1, h2⟩
theorem Bor.r {g : Gh} {q1 q2 : List Nat} {b : Nat} (h : Bor g q2 b) : Bor g (q1 ++ q2) b := h.imp id fun ⟨q, h1, h2⟩ => ⟨q, List.mem_append_right _ h1, h2⟩
theorem Xn8 {tab : Tab} {α β : Type} (K : α → St → Option β) : ∀ (p : Pg α) (σ : St), p.run tab σ K = (p.run tab σ fun a σ' => some (a, σ')).bind fun z => K z.1 z.2 := by
 intro p
 induction p with
 | ret a => intro σ; rfl
 | fail => intro σ; rfl
 | getT t p ih => intro σ; simp only [Pg.run]; exact ih _ _
 | setT t x p ih => intro σ; simp only [Pg.run]; exact ih _
 | getM κ p ih => intro σ; simp only [Pg.run]; exact ih _ _
 | setM κ e p ih => intro σ; simp only [Pg.run]; exact ih _
 | br b p q ihp ihq =>
  intro σ
  cases b with
  | true => simp only [Pg.run, cond_true]; exact ihp _
  | false => simp only [Pg.run, cond_false]; exact ihq _
 | brT t p q u ihp ihq ihu =>
  intro σ
  simp only [Pg.run]
  split
  ·rename_i c _
   cases c with
   | true => simp only [cond_true]; exact ihp _
   | false => simp only [cond_false]; exact ihq _
  ·exact ihu _
  ·rfl
 | call f as p ih =>
  intro σ
  simp only [Pg.run]
  split
  ·rename_i cr _
   cases cr.o with
   | none => rfl
   | some r => exact ih _ _
  ·rfl
theorem Dh {tab : Tab} {α β : Type} {K : α → St → Option β} {p : Pg α} {σ : St} {r : β} (h : p.run tab σ K = some r) :
  ∃ a σ', p.run tab σ (fun a σ' => some (a, σ')) = some (a, σ') ∧ K a σ' = some r := by
 rw [Xn8] at h
 cases hz : p.run tab σ fun a σ' => some (a, σ') with
 | none => rw [hz] at h; simp at h
 | some z => rw [hz] at h; exact ⟨z.1, z.2, rfl, h⟩
section
variable {P : Program} {w w' : World} {g : Gh} {σ : St} {ts : Array Value} {H H' : Hand} {tab : Tab} {γ : Type} {r : γ}
def mh : List (Option Leaf) → List Value → List (List Nat) → Hand
 | some z :: ys, u :: us, b :: bss => (z, u, b) :: mh ys us bss
 | none :: ys, _ :: us, _ :: bss => mh ys us bss
 | _, _, _ => []
def Xx1 : List (Option Leaf) → List Value → List (List Nat) → Prop
 | [], [], [] => True
 | y :: ys, _ :: us, b :: bss => (y = none → b = []) ∧ Xx1 ys us bss
 | _, _, _ => False
theorem Xrb : ∀ {ys : List (Option Leaf)} {us : List Value} {bss : List (List Nat)}, Xx1 ys us bss → Hand.bs (mh ys us bss) = bss.flatten
 | [], [], [], _ => rfl
 | some z :: ys, u :: us, b :: bss, ⟨_, h⟩ => by simp only [mh, Hand.bs_cons, List.flatten_cons, Xrb h]
 | none :: ys, u :: us, b :: bss, ⟨h0, h⟩ => by simp only [mh, List.flatten_cons, Xrb h, h0 rfl, List.nil_append]
 | [], _ :: _, _, h => h.elim
 | [], [], _ :: _, h => h.elim
 | _ :: _, [], _, h => h.elim
 | _ :: _, _ :: _, [], h => h.elim
theorem Pr : ∀ {xs : List A} {fl : List Bool} {us : List Value} {g : Gh} {σ : St} {H : Hand} (h : Rel w g σ ts H) (hx : ArgsR w g σ.mem xs us)
  {K : List (Option Leaf) → St → Option γ} (hr : (Xhg fl xs).run tab σ K = some r),
  ∃ ys bss g' σ', K ys σ' = some r ∧ Xx1 ys us bss ∧ Rel w g' σ' ts (mh ys us bss ++ H) ∧ Mv w g σ H w g' σ' (mh ys us bss ++ H)
 | [], fl, [], g, σ, H, h, hx, K, hr => ⟨[], [], g, σ, hr, trivial, h, Mv.refl _ _ _ _⟩
 | x :: xs, fl, u :: us, g, σ, H, h, ⟨hx, hxs⟩, K, hr => by
  simp only [Xhg, run_bind] at hr
  unfold Xzt at hr
  split at hr
  ·rename_i k v0 v1 wi _
   rw [run_bind] at hr
   obtain ⟨z, b, g1, σ1, hr, h1, m1, _⟩ := Fm h (show LfR w g σ.mem (.a (.cell k) v0 v1 wi) u [] from hx).2 hr
   simp only [Pg.run] at hr
   obtain ⟨ys, bss, g2, σ2, hr, ok, h2, m2⟩ := Pr h1 (by
    have : ∀ {xs : List A} {us : List Value}, ArgsR w g σ.mem xs us → ArgsR w g1 σ1.mem xs us := by
     intro xs
     induction xs with
     | nil => intro us h; cases us with
      | nil => trivial
      | cons _ _ => exact h.elim
     | cons x xs ih => intro us h; cases us with
      | nil => exact h.elim
      | cons u us => exact ⟨h.1.step m1.st fun _ _ => rfl, ih h.2⟩
    exact this hxs) hr
   have hp : (mh ys us bss ++ (z, u, b) :: H).Perm (mh (some z :: ys) (u :: us) (b :: bss) ++ H) := by
    simp only [mh, List.cons_append]; exact List.perm_middle
   exact ⟨some z :: ys, b :: bss, g2, σ2, hr, ⟨by simp, ok⟩, h2.perm hp, (m1.trans m2).perm hp⟩
  ·simp only [Pg.run] at hr
   obtain ⟨ys, bss, g2, σ2, hr, ok, h2, m2⟩ := Pr h hxs hr
   exact ⟨none :: ys, [] :: bss, g2, σ2, hr, ⟨fun _ => rfl, ok⟩, h2, m2⟩
 | [], _, _ :: _, _, _, _, _, h, _, _ => h.elim
 | _ :: _, _, [], _, _, _, _, h, _, _ => h.elim
theorem RowsV.imp {S S' : Nat → Prop} (hS : ∀ b, S b → S' b) : ∀ {rs : List (List Leaf)} {vs : List Value} {bss : List (List Nat)}, RowsV w S rs vs bss → RowsV w S' rs vs bss
 | [], [], [], _ => trivial
 | _ :: _, _ :: _, _ :: _, ⟨⟨b, o, us, bss, h1, h2, h3⟩, h4⟩ => ⟨⟨b, o, us, bss, h1, F8 hS h2 fun _ _ => rfl, h3⟩, h4.imp hS⟩
 | [], _ :: _, _, h => h.elim
 | [], [], _ :: _, h => h.elim
 | _ :: _, [], _, h => h.elim
 | _ :: _, _ :: _, [], h => h.elim
theorem XR.imp {S S' : Nat → Prop} {x : XL} {v : Value} {bs : List Nat} (h : XR w S x v bs) (hS : ∀ b, S b → S' b) : XR w S' x v bs := by
 cases x with
 | l x => exact LfV.imp (show LfV w S x v bs from h) hS fun _ _ => rfl
 | b x => exact ⟨h.1, LfV.imp (show LfV w S x v bs from h.2) hS fun _ _ => rfl⟩
 | p cs => obtain ⟨b, o, us, bss, h1, h2, h3, h4, h5⟩ := h; exact ⟨b, o, us, bss, h1, F8 hS h2 fun _ _ => rfl, h3, h4, h5⟩
 | fn f rs =>
  cases rs with
  | nil => exact h
  | cons _ _ => obtain ⟨vs, bss, h1, h2, h3⟩ := h; exact ⟨vs, bss, h1, h2.imp hS, h3⟩
theorem XRs.imp {S S' : Nat → Prop} (hS : ∀ b, S b → S' b) : ∀ {xs : List XL} {vs : List Value} {bss : List (List Nat)}, XRs w S xs vs bss → XRs w S' xs vs bss
 | [], [], [], _ => trivial
 | _ :: _, _ :: _, _ :: _, ⟨h1, h2⟩ => ⟨h1.imp hS, h2.imp hS⟩
 | [], _ :: _, _, h => h.elim
 | [], [], _ :: _, h => h.elim
 | _ :: _, [], _, h => h.elim
 | _ :: _, _ :: _, [], h => h.elim
theorem ArgV.imp {S S' : Nat → Prop} {x : Arg} {v : Value} {bs : List Nat} (h : ArgV w S x v bs) (hS : ∀ b, S b → S' b) : ArgV w S' x v bs := by
 cases x with
 | one x => exact XR.imp (show XR w S x v bs from h) hS
 | agg xs => obtain ⟨us, bss, h1, h2, h3⟩ := h; exact ⟨us, bss, h1, h2.imp hS, h3⟩
theorem ArgsV.imp {S S' : Nat → Prop} (hS : ∀ b, S b → S' b) : ∀ {xs : List Arg} {vs : List Value} {bss : List (List Nat)}, ArgsV w S xs vs bss → ArgsV w S' xs vs bss
 | [], [], [], _ => trivial
 | _ :: _, _ :: _, _ :: _, ⟨h1, h2⟩ => ⟨h1.imp hS, h2.imp hS⟩
 | [], _ :: _, _, h => h.elim
 | [], [], _ :: _, h => h.elim
 | _ :: _, [], _, h => h.elim
 | _ :: _, _ :: _, [], h => h.elim
theorem Iu (h : Rel w g σ ts H) {x : Leaf} {y : Value} (hx : LfR w g σ.mem x y []) {K : XL × List Nat → St → Option γ} (hr : (Ho x).run tab σ K = some r) :
  ∃ z qs, K (z, qs) σ = some r ∧ XR w (Bor g qs) z y [] ∧ bkX z y = [] := by
 cases x with
 | v z => exact ⟨_, _, hr, hx, rfl⟩
 | s m t l => exact ⟨_, _, hr, LfV.imp (show LfV w g.S (.s m t l) y [] from hx) (fun _ h => .inl h) fun _ _ => rfl, rfl⟩
 | a p v0 v1 wi =>
  simp only [Ho, run_bind] at hr
  obtain ⟨x', hr, hz⟩ := Pi h hx hr
  refine ⟨_, _, hr, ?_, rfl⟩
  rcases hz with ⟨z, rfl, rfl⟩ | ⟨m, t, l, rfl, hrd⟩
  ·exact ⟨rfl, rfl⟩
  ·refine Rd.imp (t := .sl t) (fun b hb => ?_) hrd fun _ _ => rfl
   rcases hb with hb | ⟨p', v0', v1', wi', he, hb⟩
   ·exact .inl hb
   ·cases he; exact .inr ⟨_, by simp, hb⟩
 | fn f cs =>
  cases cs with
  | nil =>
   obtain ⟨_, ys, hy, hl, _⟩ := (hx : _ ∧ _)
   have : ys = [] := List.length_eq_zero_iff.1 hl
   subst this
   exact ⟨_, _, hr, ⟨hy, rfl⟩, by subst hy; rfl⟩
  | cons _ _ => simp [Ho, Pg.run] at hr
 | _ => simp [Ho, Pg.run] at hr
theorem Lk (h : Rel w g σ ts H) : ∀ {xs : List Leaf} {ys : List Value} (hx : LsR w g σ.mem xs ys) {K : List XL × List Nat → St → Option γ} (hr : (Ke xs).run tab σ K = some r),
  ∃ zs qs, K (zs, qs) σ = some r ∧ XRs w (Bor g qs) zs ys (ys.map fun _ => []) ∧ Xkg zs ys = []
 | [], ys, hx, K, hr => by
  have : ys = [] := List.length_eq_zero_iff.1 hx.1
  subst this
  exact ⟨_, _, hr, trivial, rfl⟩
 | x :: xs, [], hx, K, hr => by have := hx.1; simp at this
 | x :: xs, y :: ys, hx, K, hr => by
  obtain ⟨h1, h2⟩ := hx.tail
  simp only [Ke, run_bind] at hr
  obtain ⟨z, q, hr, hz, e1⟩ := Iu h h1 hr
  obtain ⟨zs, qs, hr, hzs, e2⟩ := Lk h h2 hr
  exact ⟨_, _, hr, ⟨hz.imp fun b hb => hb.l, hzs.imp fun b hb => hb.r⟩, by simp [Xkg, e1, e2]⟩
def BkR (g : Gh) (mem : Mem) : List Bk → List (Bool × List Nat) → Prop
 | [], [] => True
 | .lent v :: r, (true, [k]) :: q => (g.hv k = v ∧ ∃ m t l v0 v1, mem k = some ⟨.s m t l, v0, v1⟩ ∧ m.isOwn = true) ∧ BkR g mem r q
 | .row b o n :: r, (false, ks) :: q => (∃ k, ks = Ay k n ∧ (∀ j, j < n → g.ad (k + j) = some (b, o + j)) ∧ ∀ k' ∈ ks, ∃ e, mem k' = some e) ∧ BkR g mem r q
 | _, _ => False
theorem BkR.append {g : Gh} {mem : Mem} : ∀ {b1 b2 : List Bk} {q1 q2 : List (Bool × List Nat)}, BkR g mem b1 q1 → BkR g mem b2 q2 → BkR g mem (b1 ++ b2) (q1 ++ q2)
 | [], _, [], _, _, h => h
 | .lent v :: r, _, (true, [k]) :: q, _, ⟨h1, h2⟩, h => ⟨h1, h2.append h⟩
 | .row b o n :: r, _, (false, ks) :: q, _, ⟨h1, h2⟩, h => ⟨h1, h2.append h⟩
 | [], _, _ :: _, _, h, _ => h.elim
 | .lent _ :: _, _, [], _, h, _ => h.elim
 | .row _ _ _ :: _, _, [], _, h, _ => h.elim
 | .lent _ :: _, _, (false, _) :: _, _, h, _ => h.elim
 | .lent _ :: _, _, (true, []) :: _, _, h, _ => h.elim
 | .lent _ :: _, _, (true, _ :: _ :: _) :: _, _, h, _ => h.elim
 | .row _ _ _ :: _, _, (true, _) :: _, _, h, _ => h.elim
def LdE (w : World) (g : Gh) (mem : Mem) (b : Bk) (z : LB) (p r : List Nat) : Prop :=
 match z with
 | (z, none) => BkR g mem [b] [z] ∧ p = z.2.flatMap g.bl ∧ r = []
 | (z, some (e, c)) => ∃ v k, b = .lent v ∧ z = (true, [k]) ∧ ∃ t l v0 v1, mem k = some ⟨.s .own t l, v0, v1⟩ ∧ (g.bl k).Perm (p ++ r) ∧
   ∀ (w' : World) (S' : Nat → Prop), (∀ b, g.S b → S' b) → (∀ b, g.S b ∨ b ∈ r → w'.heap[b]? = w.heap[b]?) →
    ∀ (y : Leaf) (bq : List Nat) (z : den t), LfV w' S' y v bq → M0 .own t (Cb (enc .own t (nthD l e (Be t))) c [y]) = some z →
    ∃ bs, bs.Perm (bq ++ r) ∧ Rd w' S' (.sl t) .own (l.set e z) [g.hv k] bs
def LdR (w : World) (g : Gh) (mem : Mem) : List Bk → List LB → List (List Nat) → List (List Nat) → Prop
 | [], [], [], [] => True
 | b :: bs, z :: zs, p :: ps, r :: rs => LdE w g mem b z p r ∧ LdR w g mem bs zs ps rs
 | _, _, _, _ => False
theorem LdR.append {w : World} {g : Gh} {mem : Mem} : ∀ {b1 b2 : List Bk} {z1 z2 : List LB} {p1 p2 r1 r2 : List (List Nat)}, LdR w g mem b1 z1 p1 r1 → LdR w g mem b2 z2 p2 r2 → LdR w g mem (b1 ++ b2) (z1 ++ z2) (p1 ++ p2) (r1 ++ r2)
 | [], _, [], _, [], _, [], _, _, h => h
 | _ :: _, _, _ :: _, _, _ :: _, _, _ :: _, _, ⟨h1, h2⟩, h => ⟨h1, h2.append h⟩
 | [], _, _ :: _, _, _, _, _, _, h, _ => h.elim
 | [], _, [], _, _ :: _, _, _, _, h, _ => h.elim
 | [], _, [], _, [], _, _ :: _, _, h, _ => h.elim
 | _ :: _, _, [], _, _, _, _, _, h, _ => h.elim
 | _ :: _, _, _ :: _, _, [], _, _, _, h, _ => h.elim
 | _ :: _, _, _ :: _, _, _ :: _, _, [], _, h, _ => h.elim
theorem BkR.cons {g : Gh} {mem : Mem} {b : Bk} {bs : List Bk} {z : Bool × List Nat} {zs : List (Bool × List Nat)} : BkR g mem (b :: bs) (z :: zs) ↔ BkR g mem [b] [z] ∧ BkR g mem bs zs := by
 obtain ⟨s, ks⟩ := z
 cases b with
 | lent v =>
  match s, ks with
  | true, [k] => exact ⟨fun h => ⟨⟨h.1, trivial⟩, h.2⟩, fun h => ⟨h.1.1, h.2⟩⟩
  | true, [] => exact ⟨fun h => h.elim, fun h => h.1.elim⟩
  | true, _ :: _ :: _ => exact ⟨fun h => h.elim, fun h => h.1.elim⟩
  | false, _ => exact ⟨fun h => h.elim, fun h => h.1.elim⟩
 | row b o n =>
  match s with
  | true => exact ⟨fun h => h.elim, fun h => h.1.elim⟩
  | false => exact ⟨fun h => ⟨⟨h.1, trivial⟩, h.2⟩, fun h => ⟨h.1.1, h.2⟩⟩
theorem LdR.plain {w : World} {g : Gh} {mem : Mem} : ∀ {bs : List Bk} {zs : List (Bool × List Nat)}, BkR g mem bs zs →
  ∃ ps rs, LdR w g mem bs (zs.map fun z => (z, none)) ps rs ∧ ps.flatten = (zs.flatMap (·.2)).flatMap g.bl
 | [], [], _ => ⟨[], [], trivial, rfl⟩
 | b :: bs, z :: zs, h => by
  obtain ⟨h1, h2⟩ := BkR.cons.1 h
  obtain ⟨ps, rs, h3, h4⟩ := LdR.plain h2
  exact ⟨z.2.flatMap g.bl :: ps, [] :: rs, ⟨⟨h1, rfl, rfl⟩, h3⟩, by simp [h4]⟩
 | [], _ :: _, h => h.elim
 | .lent _ :: _, [], h => h.elim
 | .row _ _ _ :: _, [], h => h.elim
theorem LdR.perm {w : World} {g : Gh} {mem : Mem} : ∀ {bs : List Bk} {zs : List LB} {ps rs : List (List Nat)}, LdR w g mem bs zs ps rs →
  (((zs.map (·.1)).flatMap (·.2)).flatMap g.bl).Perm (ps.flatten ++ rs.flatten)
 | [], [], [], [], _ => .refl _
 | b :: bs, (z, o) :: zs, p :: ps, r :: rs, ⟨h1, h2⟩ => by
  have ih := LdR.perm h2
  have hp : (z.2.flatMap g.bl).Perm (p ++ r) := by
   cases o with
   | none => obtain ⟨_, rfl, rfl⟩ := (h1 : _ ∧ _); simp
   | some ec =>
    obtain ⟨e, c⟩ := ec
    obtain ⟨v, k, rfl, rfl, t, l, v0, v1, _, h, _⟩ := h1
    simpa using h
  simp only [List.map_cons, List.flatMap_cons, List.flatMap_append, List.flatten_cons]
  rw [List.perm_iff_count] at hp ih ⊢
  intro a
  have e1 := hp a
  have e2 := ih a
  simp only [List.count_append] at e1 e2 ⊢
  omega
 | [], _ :: _, _, _, h => h.elim
 | [], [], _ :: _, _, h => h.elim
 | [], [], [], _ :: _, h => h.elim
 | _ :: _, [], _, _, h => h.elim
 | _ :: _, _ :: _, [], _, h => h.elim
 | _ :: _, _ :: _, _ :: _, [], h => h.elim
theorem B7 : ∀ (k n : Nat), (Ay k n).length = n
 | k, 0 => rfl
 | k, n + 1 => by simp [Ay, B7 (k + 1) n]
theorem B5 : ∀ (k n j : Nat), j < n → (Ay k n)[j]? = some (k + j)
 | k, 0, j, h => by omega
 | k, n + 1, 0, h => rfl
 | k, n + 1, j + 1, h => by
  simp only [Ay, List.getElem?_cons_succ]
  rw [B5 (k + 1) n j (by omega)]
  congr 1; omega
theorem Kw (h : Rel w g σ ts H) : ∀ {n k : Nat} {K : List Leaf → St → Option γ}, (V6 k n).run tab σ K = some r →
  ∃ cs, K cs σ = some r ∧ cs.length = n ∧ Cs w g.S cs ((Ay k n).map g.hv) ((Ay k n).map g.bl) ∧ ∀ k' ∈ Ay k n, ∃ e, σ.mem k' = some e
 | 0, k, K, hr => ⟨[], hr, rfl, trivial, fun k' hk => by simp [Ay] at hk⟩
 | n + 1, k, K, hr => by
  simp only [V6, run_bind] at hr
  obtain ⟨e, he, hr⟩ := A2 hr
  obtain ⟨hp, hr⟩ := An hr
  obtain ⟨cs, hr, h1, h2, h3⟩ := Kw h hr
  refine ⟨_, hr, by simp [h1], ⟨?_, h2⟩, fun k' hk => ?_⟩
  ·have := h.mem k e he
   cases hc : e.c with
   | v x => rw [hc] at this; exact this
   | s m t l => rw [hc] at this; exact this
   | _ => rw [hc] at hp; simp [Xuq] at hp
  ·simp only [Ay, List.mem_cons] at hk
   rcases hk with rfl | hk
   ·exact ⟨e, he⟩
   ·exact h3 k' hk
theorem Qr (h : Rel w g σ ts H) : ∀ {cs : List (Loc × Nat × Nat)} {kn : List (Nat × Nat)} {ys : List Value}, K5 cs = some kn → ys.length = cs.length →
  (∀ (i : Nat) (p : Loc) (n v0 : Nat) (z : Value), cs[i]? = some (p, n, v0) → ys[i]? = some z → POk g σ.mem p n v0 z) →
  ∀ {K : List (List Leaf) → St → Option γ}, (Rb kn).run tab σ K = some r →
  ∃ rs bss, K rs σ = some r ∧ RowsV w g.S rs ys bss ∧ BkR g σ.mem (bkF rs ys) (kn.map fun z => (false, Ay z.1 z.2)) ∧ bss.flatten = ((kn.map fun z => (false, Ay z.1 z.2)).flatMap (·.2)).flatMap g.bl ∧ rs.length = cs.length
 | [], kn, ys, hk, hl, hp, K, hr => by
  simp only [K5, Option.some.injEq] at hk
  subst hk
  have : ys = [] := List.length_eq_zero_iff.1 hl
  subst this
  exact ⟨[], [], hr, trivial, trivial, rfl, rfl⟩
 | (.cell k, n, v0) :: cs, kn, ys, hk, hl, hp, K, hr => by
  simp only [K5] at hk
  split at hk
  ·rename_i l hl'
   simp only [Option.some.injEq] at hk
   subst hk
   cases ys with
   | nil => simp at hl
   | cons y ys =>
    obtain ⟨b, o, hy, had⟩ := hp 0 _ n v0 y rfl rfl
    subst hy
    simp only [Rb, run_bind] at hr
    obtain ⟨hn, hr⟩ := An hr
    have hn := Nat.le_of_ble_eq_true hn
    obtain ⟨c, hr, h1, h2, h3⟩ := Kw h hr
    obtain ⟨rs, bss, hr, q1, q2, q3, q4⟩ := Qr h hl' (by simpa using hl) (fun i p n v0 z hc hz => hp (i + 1) p n v0 z (by simpa using hc) (by simpa using hz)) hr
    simp only [Pg.run] at hr
    refine ⟨c :: rs, ((Ay k n).map g.bl).flatten :: bss, hr, ⟨⟨b, o, _, _, rfl, h2, rfl, fun j u hu => ?_, ?_⟩, q1⟩, ⟨⟨k, ?_, ?_, h3⟩, q2⟩, ?_, by simp [q4]⟩
    ·rw [List.getElem?_map] at hu
     have hj : j < n := by
      rcases Nat.lt_or_ge j n with hlt | hge
      ·exact hlt
      ·rw [List.getElem?_eq_none (by rw [B7]; exact hge)] at hu; simp at hu
     rw [B5 _ _ _ hj] at hu
     simp only [Option.map_some, Option.some.injEq] at hu
     subst hu
     exact (h.cell _ _ _ (had j hj)).1
    ·have := (h.cell _ _ _ (had (n - 1) (by omega))).2
     rw [List.length_map, B7]
     rwa [show o + (n - 1) + 1 = o + n by omega] at this
    ·rw [h1]
    ·rw [h1]; exact had
    ·simp only [List.flatten_cons, q3, List.map_cons, List.flatMap_cons, List.flatMap_append]
     simp [List.flatMap_def]
  ·simp at hk
 | (.elem _ _ _, _, _) :: _, _, _, hk, _, _, _, _ => by simp [K5] at hk
theorem Xi4 {H : Hand} (h : Rel w g σ ts H) {x : Leaf} {u : Value} (hx : LfR w g σ.mem x u []) {K : XL × List Nat × List (Bool × List Nat) → St → Option γ} (hr : (Xpw x).run tab σ K = some r) :
  ∃ z q b bs, K (z, q, b) σ = some r ∧ XR w (Bor g q) z u bs ∧ BkR g σ.mem (bkX z u) b ∧ bs = (b.flatMap (·.2)).flatMap g.bl := by
 unfold Xpw at hr
 split at hr
 ·rename_i k v0 v1
  simp only [run_bind] at hr
  obtain ⟨e, he, hr⟩ := A2 hr
  obtain ⟨hv, hr⟩ := An hr
  split at hr
  ·rename_i m t l hc
   simp only [run_bind] at hr
   obtain ⟨hm, hr⟩ := An hr
   simp only [Pg.run] at hr
   obtain ⟨_, _, e2, he2, _, _, hch⟩ := (hx : _ ∧ _)
   simp only [Ib] at he2
   rw [he] at he2; cases he2
   obtain ⟨_, t', q, hd, h2, h3, h4⟩ := hch (by simpa [Ii] using hv)
   simp only [hdrAt, Option.some.injEq] at h3
   have h4 : u = hd := h4
   have hrd := h.mem k e he
   rw [hc] at hrd
   have hu : u = g.hv k := by rw [h4, h3]
   refine ⟨_, _, _, g.bl k, hr, ⟨⟨m, t, l, rfl, hm⟩, ?_⟩, ⟨⟨?_, m, t, l, e.v0, e.v1, by rw [he, ← hc], hm⟩, trivial⟩, by simp⟩
   ·rw [hu]; exact LfV.imp (show LfV w g.S (.s m t l) (g.hv k) (g.bl k) from hrd) (fun _ h => .inl h) fun _ _ => rfl
   ·rw [hu]
  ·simp [Pg.run] at hr
 ·simp only [run_bind] at hr
  obtain ⟨z, q, hr, hz, e1⟩ := Iu h hx hr
  simp only [Pg.run] at hr
  exact ⟨_, _, _, [], hr, hz, by rw [e1]; exact trivial, by simp⟩
theorem Se {H : Hand} (h : Rel w g σ ts H) : ∀ {xs : List Leaf} {us : List Value} (hx : LsR w g σ.mem xs us) {K : List XL × List Nat × List (Bool × List Nat) → St → Option γ} (hr : (Zb xs).run tab σ K = some r),
  ∃ zs q b bss, K (zs, q, b) σ = some r ∧ XRs w (Bor g q) zs us bss ∧ BkR g σ.mem (Xkg zs us) b ∧ bss.flatten = (b.flatMap (·.2)).flatMap g.bl
 | [], us, hx, K, hr => by
  have : us = [] := List.length_eq_zero_iff.1 hx.1
  subst this
  exact ⟨_, _, _, [], hr, trivial, trivial, by simp⟩
 | x :: xs, [], hx, K, hr => by have := hx.1; simp at this
 | x :: xs, u :: us, hx, K, hr => by
  obtain ⟨h1, h2⟩ := hx.tail
  simp only [Zb, run_bind] at hr
  obtain ⟨z, q, b, bs, hr, a1, a2, a3⟩ := Xi4 h h1 hr
  obtain ⟨zs, qs, bk, bss, hr, b1, b2, b3⟩ := Se h h2 hr
  exact ⟨_, _, _, bs :: bss, hr, ⟨a1.imp fun b hb => hb.l, b1.imp fun b hb => hb.r⟩, a2.append b2, by simp [a3, b3]⟩
theorem Xqb {H : Hand} (h : Rel w g σ ts H) {f : Bool} {y : Option Leaf} {x : A} {u : Value} {b0 : List Nat} (hh : ∀ z, y = some z → (z, u, b0) ∈ H) (hok : y = none → b0 = [])
  (hx : AR w g σ.mem x u) {K : Arg × List Nat × List LB → St → Option γ} (hr : (X40 f y x).run tab σ K = some r) :
  ∃ a q b bs ps rs, K (a, q, b) σ = some r ∧ ArgV w (Bor g q) a u bs ∧ LdR w g σ.mem (bkA a u) b ps rs ∧ bs.Perm (b0 ++ ps.flatten) := by
 have pl : ∀ {a : Arg} {q : List Nat} {b : List (Bool × List Nat)} {bs : List Nat}, K (a, q, b.map fun z => (z, none)) σ = some r → ArgV w (Bor g q) a u bs → BkR g σ.mem (bkA a u) b → bs.Perm (b0 ++ (b.flatMap (·.2)).flatMap g.bl) →
   ∃ a q b bs ps rs, K (a, q, b) σ = some r ∧ ArgV w (Bor g q) a u bs ∧ LdR w g σ.mem (bkA a u) b ps rs ∧ bs.Perm (b0 ++ ps.flatten) := fun h1 h2 h3 h4 => by
  obtain ⟨ps, rs, h5, h6⟩ := LdR.plain (w := w) h3
  exact ⟨_, _, _, _, ps, rs, h1, h2, h5, by rw [h6]; exact h4⟩
 unfold X40 at hr
 split at hr
 ·rename_i z
  have hz := h.hand (z, u, b0) (hh _ rfl)
  exact pl (b := []) hr (LfV.imp hz (fun _ h => .inl h) fun _ _ => rfl) trivial (by simp)
 ·rename_i x
  have := hok rfl
  subst this
  split at hr
  ·rename_i k n hp
   cases x with
   | ptr p n' v0 =>
    cases p with
    | elem _ _ _ => simp [Xw8] at hp
    | cell k' =>
     simp only [Xw8, Option.some.injEq, Prod.mk.injEq] at hp
     obtain ⟨rfl, rfl⟩ := hp
     obtain ⟨_, b, o, hy, had⟩ := (hx : _ ∧ _)
     subst hy
     simp only [run_bind] at hr
     obtain ⟨hn, hr⟩ := An hr
     have hn := Nat.le_of_ble_eq_true hn
     obtain ⟨cs, hr, h1, h2, h3⟩ := Kw h hr
     simp only [Pg.run] at hr
     refine pl (b := [(false, Ay k' n')]) (bs := ((Ay k' n').map g.bl).flatten) hr ⟨b, o, _, _, rfl, F8 (fun b hb => .inl hb) h2 (fun _ _ => rfl), rfl, fun j u hu => ?_, ?_⟩ ⟨⟨k', ?_, ?_, h3⟩, trivial⟩ ?_
     ·rw [List.getElem?_map] at hu
      have hj : j < n' := by
       rcases Nat.lt_or_ge j n' with hlt | hge
       ·exact hlt
       ·rw [List.getElem?_eq_none (by rw [B7]; exact hge)] at hu; simp at hu
      rw [B5 _ _ _ hj] at hu
      simp only [Option.map_some, Option.some.injEq] at hu
      subst hu
      exact (h.cell _ _ _ (had j hj)).1
     ·have := (h.cell _ _ _ (had (n' - 1) (by omega))).2
      rw [List.length_map, B7]
      rwa [show o + (n' - 1) + 1 = o + n' by omega] at this
     ·rw [h1]
     ·rw [h1]; exact had
     ·simp [List.flatMap_def]
   | _ => simp [Xw8] at hp
  split at hr
  ·rename_i ff kn hp
   cases x with
   | fn f' cs =>
    cases cs with
    | nil => simp [fnL] at hp
    | cons c cs =>
     simp only [fnL] at hp
     split at hp
     ·rename_i l hl
      simp only [Option.some.injEq, Prod.mk.injEq] at hp
      obtain ⟨rfl, rfl⟩ := hp
      obtain ⟨_, ys, hy, hlen, hpo⟩ := (hx : _ ∧ _)
      simp only [run_bind] at hr
      obtain ⟨rs, bss, hr, r1, r2, r3, r4⟩ := Qr h hl hlen hpo hr
      simp only [Pg.run] at hr
      cases rs with
      | nil => simp at r4
      | cons r0 rs =>
       subst hy
       exact pl (bs := bss.flatten) hr ⟨ys, bss, rfl, r1.imp fun b hb => .inl hb, rfl⟩ r2 (by rw [r3]; simp)
     ·simp at hp
   | _ => simp [fnL] at hp
  ·generalize (f && isAl x) = f at hr
   cases f with
   | true =>
    simp only [cond_true] at hr
    unfold X0h at hr
    split at hr
    ·rename_i k v0 v1 _ _
     simp only [run_bind] at hr
     obtain ⟨e, he, hr⟩ := A2 hr
     obtain ⟨hv, hr⟩ := An hr
     split at hr
     ·rename_i m t l hc
      simp only [run_bind] at hr
      obtain ⟨hm, hr⟩ := An hr
      simp only [Pg.run] at hr
      obtain ⟨_, _, e2, he2, _, _, hch⟩ := (hx : _ ∧ _)
      simp only [Ib] at he2
      rw [he] at he2; cases he2
      obtain ⟨_, t', q, hd, h2, h3, h4⟩ := hch (by simpa [Ii] using hv)
      simp only [hdrAt, Option.some.injEq] at h3
      have h4 : u = hd := h4
      have hrd := h.mem k e he
      rw [hc] at hrd
      have hu : u = g.hv k := by rw [h4, h3]
      refine pl (b := [(true, [k])]) (bs := g.bl k) hr ⟨⟨m, t, l, rfl, hm⟩, ?_⟩ ⟨⟨?_, m, t, l, e.v0, e.v1, by rw [he, ← hc], hm⟩, trivial⟩ (by simp)
      ·rw [hu]; exact LfV.imp (show LfV w g.S (.s m t l) (g.hv k) (g.bl k) from hrd) (fun _ h => .inl h) fun _ _ => rfl
      ·rw [hu]
     ·simp [Pg.run] at hr
    ·rename_i k e0 c0 v0 v1 _ _
     simp only [run_bind] at hr
     obtain ⟨e, he, hr1⟩ := A2 hr
     obtain ⟨hv, hr2⟩ := An hr1
     clear hr hr1
     obtain ⟨_, _, e2, he2, _, _, hch⟩ := (hx : _ ∧ _)
     simp only [Ib] at he2
     rw [he] at he2; cases he2
     obtain ⟨hin, t', q, hd, h2, h3, h4⟩ := hch (by simpa [Ii] using hv)
     have h4 : u = hd := h4
     subst h4
     obtain ⟨x0, t0, q0, hx0, hl0, hi0⟩ := hin
     rw [he] at hx0; cases hx0
     obtain ⟨ec, ev0, ev1⟩ := e
     split at hr2
     ·rename_i t l hc
      simp only at hc
      subst hc
      simp only [lstOf, Option.some.injEq, Prod.mk.injEq] at hl0
      obtain ⟨rfl, rfl⟩ := hl0
      split at hr2
      ·rename_i n u' l' hnc
       have hr := hr2
       simp only [Pg.run] at hr
       obtain ⟨hn, q1, rest, a1, a2, a3⟩ := h.openElem he hi0 hnc h3
       exact ⟨_, _, _, q1, [q1], [rest], hr, ⟨⟨n, u', l', rfl, by rw [hn]; rfl⟩, LfV.imp a1 (fun _ h => .inl h) fun _ _ => rfl⟩,
        ⟨⟨u, k, rfl, rfl, t, l, ev0, ev1, he, a2, a3⟩, trivial⟩, by simp⟩
      ·simp [Pg.run] at hr2
     ·simp [Pg.run] at hr2
    ·simp [Pg.run] at hr
   | false =>
    simp only [cond_false, run_bind] at hr
    obtain ⟨z, q, hr, hz, e1⟩ := Iu h hx hr
    simp only [Pg.run] at hr
    refine pl (b := []) (bs := []) hr hz ?_ (by simp)
    simp only [bkA, e1]
    exact trivial
 ·rename_i xs'
  have := hok rfl
  subst this
  obtain ⟨vs, rfl, hl⟩ := hx
  cases f with
  | true =>
   simp only [cond_true, run_bind] at hr
   obtain ⟨zs, q, b, bss, hr, c1, c2, c3⟩ := Se h hl hr
   simp only [Pg.run] at hr
   exact pl hr ⟨vs, bss, rfl, c1, rfl⟩ (by simpa [bkA] using c2) (by rw [c3]; simp)
  | false =>
   simp only [cond_false, run_bind] at hr
   obtain ⟨z, q, hr, hz, e1⟩ := Lk h hl hr
   simp only [Pg.run] at hr
   refine pl (b := []) (bs := []) hr ⟨vs, _, rfl, hz, by simp⟩ ?_ (by simp)
   simp only [bkA, e1]
   exact trivial
 ·simp [Pg.run] at hr
theorem Vs : ∀ {xs : List A} {us : List Value} {fl : List Bool} {ys : List (Option Leaf)} {bss : List (List Nat)} {H : Hand} (h : Rel w g σ ts H) (hh : ∀ z ∈ mh ys us bss, z ∈ H) (hok : Xx1 ys us bss)
  (hx : ArgsR w g σ.mem xs us) {K : List Arg × List Nat × List LB → St → Option γ} (hr : (Xij fl ys xs).run tab σ K = some r),
  ∃ as qs bk bss' ps rs, K (as, qs, bk) σ = some r ∧ ArgsV w (Bor g qs) as us bss' ∧ LdR w g σ.mem (Mh as us) bk ps rs ∧ bss'.flatten.Perm (bss.flatten ++ ps.flatten)
 | [], [], _, [], [], H, h, hh, hok, hx, K, hr => ⟨_, _, _, [], [], [], hr, trivial, trivial, by simp⟩
 | x :: xs, u :: us, fl, y :: ys, b :: bss, H, h, hh, ⟨hok1, hok2⟩, ⟨hx, hxs⟩, K, hr => by
  simp only [Xij, run_bind] at hr
  have hsub : ∀ z ∈ mh ys us bss, z ∈ H := fun z hz => hh z (by cases y <;> simp [mh, hz])
  obtain ⟨a, q, bk, bs, p1, r1, hr, h1, h2, h3⟩ := Xqb h (fun z hz => hh _ (by subst hz; simp [mh])) hok1 hx hr
  obtain ⟨as, qs, bk2, bss2, p2, r2, hr, h4, h5, h6⟩ := Vs h hsub hok2 hxs hr
  refine ⟨_, _, _, bs :: bss2, _, _, hr, ⟨h1.imp fun b hb => hb.l, h4.imp fun b hb => hb.r⟩, h2.append h5, ?_⟩
  simp only [List.flatten_cons, List.flatten_append]
  refine (h3.append h6).trans ?_
  simp only [List.append_assoc]
  refine List.Perm.append_left b ?_
  rw [← List.append_assoc, ← List.append_assoc]
  exact List.Perm.append_right _ List.perm_append_comm
 | [], _ :: _, _, _, _, _, _, _, _, h, _, _ => h.elim
 | _ :: _, [], _, _, _, _, _, _, _, h, _, _ => h.elim
 | [], [], _, _ :: _, _, _, _, _, h, _, _, _ => h.elim
 | [], [], _, [], _ :: _, _, _, _, h, _, _, _ => h.elim
 | _ :: _, _ :: _, _, [], _, _, _, _, h, _, _, _ => h.elim
 | _ :: _, _ :: _, _, _ :: _, [], _, _, _, h, _, _, _ => h.elim
end
end Go.Rf
end

section
set_option linter.unusedVariables false
set_option linter.unusedSimpArgs false
namespace Go.Rf
theorem Ls {k q : Nat} (h : ¬ k = q) : Nat.beq k q = false := by
 cases hb : Nat.beq k q with
 | true => exact absurd (Nat.eq_of_beq_eq_true hb) h
 | false => rfl
theorem Tc : ∀ {l : List Nat} {k : Nat}, k ∈ l → B6 l k = true
 | a :: l, k, h => by
  simp only [B6]
  by_cases hk : a = k
  ·subst hk; simp
  ·rw [Ls hk]
   exact Tc ((List.mem_cons.1 h).resolve_left fun h => hk h.symm)
theorem Ip : ∀ {l : List Nat}, Pw l = true → l.Nodup
 | [], _ => List.nodup_nil
 | a :: l, h => by
  simp only [Pw, Bool.and_eq_true, Bool.not_eq_true'] at h
  exact List.nodup_cons.2 ⟨fun hm => by rw [Tc hm] at h; simp at h, Ip h.2⟩
theorem ObjLike.eq {p : Nat → Prop} {o1 o2 : Option Obj} (h : ObjLike p o1 o2) (hp : ∀ j, ¬ p j) : o2 = o1 := by
 rcases h with rfl | ⟨c1, c2, te, fz, e1, e2, hs, hj⟩
 ·rfl
 ·rw [e1, e2]
  have : c1 = c2 := Array.ext_getElem? fun j => hj j (hp j)
  rw [this]
theorem ObjLike.cell {w w' : World} {p : Nat → Prop} {b o : Nat} (h : ObjLike p w.heap[b]? w'.heap[b]?) (hp : ¬ p o) : cellAt w' b o = cellAt w b o := by
 rcases h with h | ⟨c1, c2, te, fz, e1, e2, hs, hj⟩
 ·exact A4 h.symm
 ·unfold cellAt World.cell?
  simp only [e1, e2]
  simpa using (hj o hp).symm
theorem ObjLike.blk {w w' : World} {p : Nat → Prop} {b n : Nat} (h : ObjLike p w.heap[b]? w'.heap[b]?) (hb : BlkOk w b n) : BlkOk w' b n := by
 obtain ⟨cs, te, h1, h2⟩ := hb
 rcases h with h | ⟨c1, c2, te', fz, e1, e2, hs, hj⟩
 ·exact ⟨cs, te, h.symm.trans h1, h2⟩
 ·rw [h1] at e1
  simp only [Option.some.injEq, Obj.cells.injEq] at e1
  obtain ⟨rfl, rfl, rfl⟩ := e1
  exact ⟨c2, te, e2, by omega⟩
structure RE where
 k : Nat
 y : Leaf
 u : Value
 bs : List Nat
 s : Bool
def fR : List RE → Nat → Option RE
 | [], _ => none
 | z :: r, k => cond (Nat.beq z.k k) (some z) (fR r k)
theorem Bm : ∀ {R : List RE} {k : Nat} {z : RE}, fR R k = some z → z ∈ R ∧ z.k = k
 | [], k, z, h => by simp [fR] at h
 | z0 :: r, k, z, h => by
  simp only [fR] at h
  cases hb : Nat.beq z0.k k with
  | true =>
   rw [hb] at h
   simp only [cond_true, Option.some.injEq] at h
   subst h
   exact ⟨List.mem_cons_self, Nat.eq_of_beq_eq_true hb⟩
  | false =>
   rw [hb] at h
   obtain ⟨h1, h2⟩ := Bm h
   exact ⟨List.mem_cons_of_mem _ h1, h2⟩
theorem Xtl : ∀ {R : List RE} {z : RE}, (R.map (·.k)).Nodup → z ∈ R → fR R z.k = some z
 | z0 :: r, z, hn, h => by
  simp only [List.map_cons, List.nodup_cons] at hn
  simp only [fR]
  rcases List.mem_cons.1 h with rfl | h
  ·simp
  ·have : z0.k ≠ z.k := fun he => hn.1 (by rw [he]; exact List.mem_map_of_mem h)
   rw [Ls this]
   exact Xtl hn.2 h
theorem Wq : ∀ {R : List RE} {k : Nat}, fR R k = none → ∀ z ∈ R, z.k ≠ k
 | z0 :: r, k, h, z, hz => by
  simp only [fR] at h
  cases hb : Nat.beq z0.k k with
  | true => rw [hb] at h; simp at h
  | false =>
   rw [hb] at h
   rcases List.mem_cons.1 hz with rfl | hz
   ·intro he; rw [he] at hb; simp at hb
   ·exact Wq h z hz
 | [], k, _, z, hz => by cases hz
theorem Xs0 : ∀ (R1 R2 : List RE) (k : Nat), fR (R1 ++ R2) k = (fR R1 k).or (fR R2 k)
 | [], R2, k => rfl
 | z :: r, R2, k => by
  simp only [List.cons_append, fR]
  cases Nat.beq z.k k with
  | true => rfl
  | false => exact Xs0 r R2 k
def Iy (z : RE) (e : Ent) : Ent := cond z.s ⟨z.y, e.v0, e.v1 + 1⟩ ⟨z.y, e.v0 + bump e.c, e.v1⟩
def Mm (R : List RE) (mem0 mem : Mem) : Mem := fun k => match fR R k with | some z => (mem0 k).map (Iy z) | none => mem k
theorem Qd : ∀ {R : List RE}, (R.flatMap (·.bs)).Nodup → ∀ {z z' : RE}, z ∈ R → z' ∈ R → z.k ≠ z'.k → ∀ b ∈ z.bs, b ∉ z'.bs
 | z0 :: r, hn, z, z', h, h', hne, b, hb, hb' => by
  simp only [List.flatMap_cons] at hn
  obtain ⟨n1, n2, n3⟩ := List.nodup_append.1 hn
  rcases List.mem_cons.1 h with h1 | h1
  ·rcases List.mem_cons.1 h' with h2 | h2
   ·exact hne (by rw [h1, h2])
   ·rw [h1] at hb
    exact n3 b hb b (List.mem_flatMap.2 ⟨z', h2, hb'⟩) rfl
  ·rcases List.mem_cons.1 h' with h2 | h2
   ·rw [h2] at hb'
    exact n3 b hb' b (List.mem_flatMap.2 ⟨z, h1, hb⟩) rfl
   ·exact Qd n2 h1 h2 hne b hb hb'
theorem Xcj {R : List RE} (hn : (R.flatMap (·.bs)).Nodup) {z : RE} (h : z ∈ R) : z.bs.Nodup := by
 induction R with
 | nil => cases h
 | cons z0 r ih =>
  simp only [List.flatMap_cons] at hn
  obtain ⟨n1, n2, _⟩ := List.nodup_append.1 hn
  rcases List.mem_cons.1 h with rfl | h
  ·exact n1
  ·exact ih n2 h
section
variable {P : Program} {w w' : World} {g : Gh} {σ σ' : St} {ts : Array Value} {H H' : Hand} {tab : Tab} {γ : Type} {r : γ} {R : List RE} {S' : Nat → Prop}
def hvR (R : List RE) (hv : Nat → Value) (k : Nat) : Value := match fR R k with | some z => z.u | none => hv k
def blR (R : List RE) (bl : Nat → List Nat) (k : Nat) : List Nat := match fR R k with | some z => z.bs | none => bl k
structure REok (w' : World) (S' : Nat → Prop) (g : Gh) (mem : Mem) (z : RE) : Prop where
 lf : LfV w' S' z.y z.u z.bs
 ex : ∃ e, mem z.k = some e
 lent : z.s = true → z.u = g.hv z.k ∧ ∃ m t l n l' v0 v1, mem z.k = some ⟨.s m t l, v0, v1⟩ ∧ z.y = .s n t l'
 cell : z.s = false → ∃ b o, g.ad z.k = some (b, o) ∧ cellAt w' b o = some z.u
theorem Rel.callBk (h : Rel w g σ ts H) (hts : σ'.ts = σ.ts) (hmem : ∀ k, σ'.mem k = Mm R σ.mem σ.mem k)
  (hkn : (R.map (·.k)).Nodup) (hR : ∀ z ∈ R, REok w' S' g σ.mem z) {rows : List (Nat × Nat)} (hrows : ∀ a ∈ rows, ∃ z ∈ R, z.s = false ∧ g.ad z.k = some a)
  {own : List Nat} (hown : ∀ b ∈ own, b ∈ H.bs ∨ ∃ z ∈ R, b ∈ g.bl z.k)
  (hfrm : ∀ q, q < w.heap.size → q ∉ own → ObjLike (fun o => (q, o) ∈ rows) w.heap[q]? w'.heap[q]?)
  (hsz : w.heap.size ≤ w'.heap.size) (hio : Io w w')
  (hS : ∀ b, g.S b → S' b) (hS2 : ∀ b, S' b → g.S b ∨ b ∈ own ∨ w.heap.size ≤ b) (hSlt : ∀ b, S' b → b < w'.heap.size)
  (hnd : (H'.bs ++ R.flatMap (·.bs)).Nodup) (hbs : ∀ b ∈ H'.bs ++ R.flatMap (·.bs), b ∈ own ∨ w.heap.size ≤ b)
  (hSd : ∀ b ∈ H'.bs ++ R.flatMap (·.bs), ¬ S' b) (hand : ∀ x ∈ H', LfV w' S' x.1 x.2.1 x.2.2) :
  ∃ g', (g'.S = S' ∧ g'.ad = g.ad ∧ ∀ k, g'.bl k = blR R g.bl k) ∧ Rel w' g' σ' ts H' ∧ Mv w g σ H w' g' σ' H' := by
 obtain ⟨n1, n2, n3⟩ := List.nodup_append.1 hnd
 have ownS : ∀ b ∈ own, ¬ g.S b := fun b hb hs => by
  rcases hown b hb with h1 | ⟨z, _, h1⟩
  ·exact (h.st b hs).2.1 h1
  ·exact (h.st b hs).1 _ h1
 have ownB : ∀ b ∈ own, ∀ k o, g.ad k ≠ some (b, o) := fun b hb k o ha => by
  obtain ⟨a1, a2, _⟩ := h.box k b o ha
  rcases hown b hb with h1 | ⟨z, _, h1⟩
  ·exact a2 h1
  ·exact a1 _ h1
 have holdS : ∀ b, g.S b → w'.heap[b]? = w.heap[b]? := fun b hb => by
  refine (hfrm b (h.st b hb).2.2 fun ho => ownS b ho hb).eq fun o ho => ?_
  obtain ⟨z, _, _, ha⟩ := hrows _ ho
  exact (h.box _ _ _ ha).2.2 hb
 have holdB : ∀ k, fR R k = none → ∀ b ∈ g.bl k, w'.heap[b]? = w.heap[b]? := fun k hk b hb => by
  refine (hfrm b (h.bllt k b hb) fun ho => ?_).eq fun o ho => ?_
  ·rcases hown b ho with h1 | ⟨z, hz, h1⟩
   ·exact h.hdj k b hb h1
   ·exact h.dj z.k k (Wq hk z hz) b h1 hb
  ·obtain ⟨z, _, _, ha⟩ := hrows _ ho
   exact (h.box _ _ _ ha).1 k hb
 have hbx : ∀ k b o, g.ad k = some (b, o) → (∀ z, fR R k = some z → z.s = true) → cellAt w' b o = cellAt w b o := fun k b o ha hz => by
  refine (hfrm b (h.adlt ha) fun ho => ownB b ho k o ha).cell fun ho => ?_
  obtain ⟨z, hz1, hz2, ha'⟩ := hrows _ ho
  have : z.k = k := h.inj _ _ _ ha' ha
  have := hz z (by rw [← this]; exact Xtl hkn hz1)
  rw [hz2] at this; cases this
 have hblk : ∀ k b o, g.ad k = some (b, o) → BlkOk w' b (o + 1) := fun k b o ha => (hfrm b (h.adlt ha) fun ho => ownB b ho k o ha).blk (h.cell k b o ha).2
 let g' : Gh := ⟨g.ad, hvR R g.hv, blR R g.bl, S'⟩
 have hv0 : ∀ k, fR R k = none → g'.hv k = g.hv k := fun k hk => by simp only [g', hvR, hk]
 have hv1 : ∀ k z, fR R k = some z → g'.hv k = z.u := fun k z hk => by simp only [g', hvR, hk]
 have bl0 : ∀ k, fR R k = none → g'.bl k = g.bl k := fun k hk => by simp only [g', blR, hk]
 have bl1 : ∀ k z, fR R k = some z → g'.bl k = z.bs := fun k z hk => by simp only [g', blR, hk]
 have hst : Step w g σ.mem w' g' σ'.mem := by
  refine ⟨hS, fun _ _ h => h, fun q x hx => ?_⟩
  cases hq : fR R q with
  | none =>
   have hm' : σ'.mem q = some x := by rw [hmem]; simp only [Mm, hq]; exact hx
   refine ⟨x, hm', Nat.le_refl _, Nat.le_refl _, fun _ z hz => ⟨hv0 q hq, hz, fun _ i c z h2 h3 => ?_⟩⟩
   obtain ⟨x', t, q', hx', hl, hi⟩ := h3
   rw [hx] at hx'; cases hx'
   obtain ⟨xc, xv0, xv1⟩ := x
   have hm := h.mem q _ hx
   cases xc with
   | s m t l =>
    refine ⟨by simp only [leafAt, hx] at h2; simp only [leafAt, hm']; exact h2, ?_⟩
    obtain ⟨y, hy, hs⟩ := (hm : Rd w g.S (.sl t) m l [g.hv q] (g.bl q))
    simp only [List.cons.injEq, and_true] at hy
    subst hy
    simp only [lstOf, Option.some.injEq, Prod.mk.injEq] at hl
    obtain ⟨b, o, c', hy, _, hb⟩ := hs.hdr (i := i) (by omega)
    simp only [hdrAt, hv0 q hq, hy, hx, hm']
    refine A4 ?_
    rcases hb with hb | hb
    ·exact holdS b hb
    ·exact holdB q hq b hb
   | h m t l e => simp [leafAt, hx] at h2
   | _ => simp [leafAt, hx] at h2
  | some z =>
   obtain ⟨hz, hzk⟩ := Bm hq
   have hm' : σ'.mem q = some (Iy z x) := by rw [hmem]; simp only [Mm, hq, hx, Option.map_some]
   refine ⟨_, hm', ?_⟩
   cases hs : z.s with
   | true =>
    obtain ⟨hu, m, t, l, n, l', v0, v1, he, hy⟩ := (hR z hz).lent hs
    rw [hzk, hx] at he
    simp only [Option.some.injEq] at he
    subst he
    have hlf := (hR z hz).lf
    simp only [Iy, hs, cond_true]
    refine ⟨Nat.le_refl _, by simp, fun _ z0 hz0 => ⟨?_, ?_, fun hv => by simp at hv⟩⟩
    ·rw [hv1 q z hq, hu, hzk]
    ·rw [hy] at hlf ⊢
     obtain ⟨ad, c, h1⟩ := Br (h.mem q _ hx : Rd w g.S (.sl t) m l [g.hv q] (g.bl q))
     obtain ⟨ad', c', h2⟩ := Br (hlf : Rd w' S' (.sl t) n l' [z.u] z.bs)
     rw [hu, hzk, h1] at h2
     simp only [Value.slice.injEq] at h2
     simp only [lstOf, Option.some.injEq] at hz0 ⊢
     rw [← hz0, h2.2.1]
   | false =>
    simp only [Iy, hs, cond_false]
    refine ⟨by simp, Nat.le_refl _, fun hv z0 hz0 => ?_⟩
    have : bump x.c = 0 := by simp at hv; omega
    obtain ⟨xc, _, _⟩ := x
    cases xc <;> simp [bump, lstOf] at this hz0
 have hnotbl : ∀ b, (b ∈ own ∨ w.heap.size ≤ b) → ∀ k, fR R k = none → b ∉ g.bl k := fun b hb k hk hbk => by
  rcases hb with hb | hb
  ·rcases hown b hb with h1 | ⟨z, hz, h1⟩
   ·exact h.hdj k b hbk h1
   ·exact h.dj z.k k (Wq hk z hz) b h1 hbk
  ·have := h.bllt k b hbk; omega
 have hRbs : ∀ {z}, z ∈ R → ∀ b ∈ z.bs, b ∈ H'.bs ++ R.flatMap (·.bs) := fun hz b hb => List.mem_append_right _ (List.mem_flatMap.2 ⟨_, hz, hb⟩)
 refine ⟨g', ⟨rfl, rfl, fun _ => rfl⟩, ⟨?_, ?_, h.inj, ?_, fun t => ?_, by rw [hts]; exact h.len, ?_, ?_, ?_, ?_, n1, ?_, hand⟩, hst, ?_, ?_, fun _ _ h => .inl h, hsz, hio⟩
 ·intro k e he
  cases hk : fR R k with
  | none =>
   have he0 : σ.mem k = some e := by rw [hmem] at he; simpa only [Mm, hk] using he
   rw [hv0 k hk, bl0 k hk]
   exact (h.mem k e he0).step hst fun b hb => hb.elim (holdS b) (holdB k hk b)
  | some z =>
   obtain ⟨hz, hzk⟩ := Bm hk
   obtain ⟨e0, he0⟩ := (hR z hz).ex
   rw [hzk] at he0
   have : e = Iy z e0 := by rw [hmem] at he; simp only [Mm, hk, he0, Option.map_some, Option.some.injEq] at he; exact he.symm
   subst this
   rw [hv1 k z hk, bl1 k z hk]
   have hlf := (hR z hz).lf
   have hc : (Iy z e0).c = z.y := by unfold Iy; cases z.s <;> rfl
   rw [hc]
   cases hy : z.y with
   | v x => rw [hy] at hlf; exact hlf
   | s m t l => rw [hy] at hlf; exact hlf
   | _ => rw [hy] at hlf; exact hlf.elim
 ·intro k b o ha
  refine ⟨?_, hblk k b o ha⟩
  cases hk : fR R k with
  | none => rw [hv0 k hk, hbx k b o ha (fun z hz => by rw [hk] at hz; cases hz)]; exact (h.cell k b o ha).1
  | some z =>
   obtain ⟨hz, hzk⟩ := Bm hk
   rw [hv1 k z hk]
   cases hs : z.s with
   | true =>
    rw [hbx k b o ha (fun z' hz' => by rw [hk] at hz'; cases hz'; exact hs), ((hR z hz).lent hs).1, hzk]
    exact (h.cell k b o ha).1
   | false =>
    obtain ⟨b', o', ha', hc⟩ := (hR z hz).cell hs
    rw [hzk] at ha'
    have ha : g.ad k = some (b, o) := ha
    rw [ha] at ha'
    simp only [Option.some.injEq, Prod.mk.injEq] at ha'
    obtain ⟨rfl, rfl⟩ := ha'
    exact hc
 ·intro k hk
  cases hk' : fR R k with
  | none =>
   have : σ.mem k = none := by rw [hmem] at hk; simpa only [Mm, hk'] using hk
   rw [bl0 k hk']
   exact h.pres k this
  | some z =>
   obtain ⟨hz, hzk⟩ := Bm hk'
   obtain ⟨e0, he0⟩ := (hR z hz).ex
   rw [hzk] at he0
   rw [hmem] at hk
   simp [Mm, hk', he0] at hk
 ·have := (h.tmps t).step hst holdS
  rwa [show σ'.tmp t = σ.tmp t by unfold St.tmp; rw [hts]]
 ·intro k
  cases hk : fR R k with
  | none => rw [bl0 k hk]; exact h.nd k
  | some z => rw [bl1 k z hk]; exact Xcj n2 (Bm hk).1
 ·intro k k' hne b hb hb'
  cases hk : fR R k with
  | none =>
   rw [bl0 k hk] at hb
   cases hk' : fR R k' with
   | none => rw [bl0 k' hk'] at hb'; exact h.dj k k' hne b hb hb'
   | some z' => rw [bl1 k' z' hk'] at hb'; exact hnotbl b (hbs b (hRbs (Bm hk').1 b hb')) k hk hb
  | some z =>
   rw [bl1 k z hk] at hb
   cases hk' : fR R k' with
   | none => rw [bl0 k' hk'] at hb'; exact hnotbl b (hbs b (hRbs (Bm hk).1 b hb)) k' hk' hb'
   | some z' =>
    rw [bl1 k' z' hk'] at hb'
    exact Qd n2 (Bm hk).1 (Bm hk').1 (by rw [(Bm hk).2, (Bm hk').2]; exact hne) b hb hb'
 ·intro k b o ha
  have ha : g.ad k = some (b, o) := ha
  obtain ⟨a1, a2, a3⟩ := h.box k b o ha
  have hlt := h.adlt ha
  have hno : ∀ b', (b' ∈ own ∨ w.heap.size ≤ b') → b' ≠ b := fun b' hb' he => by
   subst he
   exact hb'.elim (fun ho => ownB _ ho k o ha) (by omega)
  refine ⟨fun k' hb => ?_, fun hb => hno b (hbs b (List.mem_append_left _ hb)) rfl, fun hb => ?_⟩
  ·cases hk' : fR R k' with
   | none => rw [bl0 k' hk'] at hb; exact a1 k' hb
   | some z => rw [bl1 k' z hk'] at hb; exact hno b (hbs b (hRbs (Bm hk').1 b hb)) rfl
  ·rcases hS2 b hb with h4 | h4
   ·exact a3 h4
   ·exact hno b h4 rfl
 ·intro b hb
  refine ⟨fun k hk => ?_, fun hb' => hSd b (List.mem_append_left _ hb') hb, hSlt b hb⟩
  cases hk' : fR R k with
  | none =>
   rw [bl0 k hk'] at hk
   rcases hS2 b hb with h4 | h4
   ·exact (h.st b h4).1 k hk
   ·exact hnotbl b h4 k hk' hk
  | some z => rw [bl1 k z hk'] at hk; exact hSd b (hRbs (Bm hk').1 b hk) hb
 ·intro k b hb hb'
  cases hk' : fR R k with
  | none => rw [bl0 k hk'] at hb; exact hnotbl b (hbs b (List.mem_append_left _ hb')) k hk' hb
  | some z => rw [bl1 k z hk'] at hb; exact n3 b hb' b (List.mem_flatMap.2 ⟨z, (Bm hk').1, hb⟩) rfl
 ·have hownO : ∀ b ∈ own, Own g H b := fun b hb => (hown b hb).elim .inr fun ⟨z, _, h1⟩ => .inl ⟨z.k, h1⟩
  rintro b (⟨k, hb⟩ | hb)
  ·cases hk' : fR R k with
   | none => rw [bl0 k hk'] at hb; exact .inl (.inl ⟨k, hb⟩)
   | some z => rw [bl1 k z hk'] at hb; exact (hbs b (hRbs (Bm hk').1 b hb)).imp (hownO b) id
  ·exact (hbs b (List.mem_append_left _ hb)).imp (hownO b) id
 ·intro b hb
  rcases hS2 b hb with h4 | h4 | h4
  ·exact .inl h4
  ·exact .inr (.inl ((hown b h4).elim .inr fun ⟨z, _, h1⟩ => .inl ⟨z.k, h1⟩))
  ·exact .inr (.inr h4)
theorem Lp {s : Bool} {mem0 : Mem} {Q : Nat → Value → Prop} : ∀ {ks : List Nat} {ys : List Leaf} {us : List Value} {bss : List (List Nat)} {σ : St} {K : Unit → St → Option γ}, (Ly s ks ys).run tab σ K = some r →
  Cs w' S' ys us bss → ks.Nodup → (∀ k ∈ ks, σ.mem k = mem0 k) → (∀ (j : Nat) (k : Nat) (u : Value), ks[j]? = some k → us[j]? = some u → Q k u) →
  ∃ R σ', K () σ' = some r ∧ R.map RE.k = ks ∧ σ'.ts = σ.ts ∧ (∀ k, σ'.mem k = Mm R mem0 σ.mem k) ∧
   (∀ z ∈ R, z.s = s ∧ LfV w' S' z.y z.u z.bs ∧ Q z.k z.u ∧ (∃ e, mem0 z.k = some e) ∧ (s = true → ∃ m t l n l' v0 v1, mem0 z.k = some ⟨.s m t l, v0, v1⟩ ∧ z.y = .s n t l')) ∧ R.flatMap RE.bs = bss.flatten
 | [], [], [], [], σ, K, hr, _, _, _, _ => ⟨[], σ, hr, rfl, rfl, fun _ => rfl, by simp, rfl⟩
 | k :: ks, y :: ys, u :: us, b :: bss, σ, K, hr, ⟨hc1, hc2⟩, hn, hm, hq => by
  simp only [Ly, Xic, run_bind] at hr
  obtain ⟨e, he, hr⟩ := A2 hr
  obtain ⟨hn1, hn2⟩ := List.nodup_cons.1 hn
  have he0 : mem0 k = some e := (hm k List.mem_cons_self).symm.trans he
  have hgo : ∀ {σ1 : St}, (Ly s ks ys).run tab σ1 K = some r → σ1.ts = σ.ts → (∀ q, σ1.mem q = if q = k then some (Iy ⟨k, y, u, b, s⟩ e) else σ.mem q) →
    (s = true → ∃ m t l n l' v0 v1, mem0 k = some ⟨.s m t l, v0, v1⟩ ∧ y = .s n t l') →
    ∃ R σ', K () σ' = some r ∧ R.map RE.k = k :: ks ∧ σ'.ts = σ.ts ∧ (∀ k, σ'.mem k = Mm R mem0 σ.mem k) ∧
     (∀ z ∈ R, z.s = s ∧ LfV w' S' z.y z.u z.bs ∧ Q z.k z.u ∧ (∃ e, mem0 z.k = some e) ∧ (s = true → ∃ m t l n l' v0 v1, mem0 z.k = some ⟨.s m t l, v0, v1⟩ ∧ z.y = .s n t l')) ∧ R.flatMap RE.bs = (b :: bss).flatten := by
   intro σ1 hr1 hts1 hm1 hsh
   obtain ⟨R, σ', h1, h2, h3, h4, h5, h6⟩ := Lp (mem0 := mem0) (Q := Q) hr1 hc2 hn2 (fun q hq' => (hm1 q).trans ((if_neg (fun h => hn1 (by rw [← h]; exact hq'))).trans (hm q (List.mem_cons_of_mem _ hq'))))
    (fun j q v h1 h2 => hq (j + 1) q v (by simpa using h1) (by simpa using h2))
   refine ⟨⟨k, y, u, b, s⟩ :: R, σ', h1, by simp [h2], h3.trans hts1, fun q => ?_, fun z hz => ?_, by simp [h6]⟩
   ·rw [h4]
    simp only [Mm, fR]
    by_cases hqk : k = q
    ·subst hqk
     have : fR R k = none := by
      cases hf : fR R k with
      | none => rfl
      | some z =>
       obtain ⟨hz, hzk⟩ := Bm hf
       exact absurd (by rw [← h2, ← hzk]; exact List.mem_map_of_mem hz) hn1
     simp [this, hm1, he0]
    ·rw [Ls hqk]
     simp only [cond_false]
     cases fR R q with
     | some z => rfl
     | none => simp only; rw [hm1, if_neg (fun h => hqk h.symm)]
   ·rcases List.mem_cons.1 hz with rfl | hz
    ·exact ⟨rfl, hc1, hq 0 k u rfl rfl, ⟨e, he0⟩, hsh⟩
    ·exact h5 z hz
  cases s with
  | false =>
   simp only [cond_false, Pg.run] at hr
   exact hgo hr rfl (fun q => by rw [St.mem_setM]; rfl) (by simp)
  | true =>
   simp only [cond_true] at hr
   cases hec : e.c with
   | s m t l =>
    rw [hec] at hr
    cases y with
    | s n t' l' =>
     simp only [run_bind] at hr
     obtain ⟨hl, hr2⟩ := An hr
     simp only [Pg.run] at hr2
     have hl2 : t' = t ∧ n.isOwn = true := by simpa using hl
     clear hl hr
     obtain ⟨ht, hl3⟩ := hl2
     subst ht
     exact hgo hr2 rfl (fun q => by rw [St.mem_setM]; rfl) (fun _ => ⟨m, t', l, n, l', e.v0, e.v1, by rw [he0, ← hec], rfl⟩)
    | _ => simp [Pg.run] at hr
   | _ => rw [hec] at hr; simp [Pg.run] at hr
 | [], _ :: _, _, _, _, _, hr, _, _, _, _ => by simp [Ly, Pg.run] at hr
 | _ :: _, [], _, _, _, _, hr, _, _, _, _ => by simp [Ly, Pg.run] at hr
 | [], [], _ :: _, _, _, _, _, h, _, _, _ => h.elim
 | [], [], [], _ :: _, _, _, _, h, _, _, _ => h.elim
 | _ :: _, _ :: _, [], _, _, _, _, h, _, _, _ => h.elim
 | _ :: _, _ :: _, _ :: _, [], _, _, _, h, _, _, _ => h.elim
theorem Ml {mem0 : Mem} : ∀ {bks : List Bk} {bk : List (Bool × List Nat)} {yss : List (List Leaf)} {bbs : List (List Nat)} {σ : St} {ex : List Bk} {K : List (List Leaf) → St → Option γ}, (Gg bk yss).run tab σ K = some r →
  BkR g mem0 bks bk → BacksV w' S' (bks ++ ex) yss bbs → (bk.flatMap (·.2)).Nodup → (∀ k ∈ bk.flatMap (·.2), σ.mem k = mem0 k) →
  ∃ R σ' rest bb1 bb2, K rest σ' = some r ∧ R.map RE.k = bk.flatMap (·.2) ∧ σ'.ts = σ.ts ∧ (∀ k, σ'.mem k = Mm R mem0 σ.mem k) ∧ (∀ z ∈ R, REok w' S' g mem0 z) ∧ R.flatMap RE.bs = bb1.flatten ∧ bbs = bb1 ++ bb2 ∧ BacksV w' S' ex rest bb2 ∧
   ∀ a ∈ bks.flatMap Bk.rows, ∃ z ∈ R, z.s = false ∧ g.ad z.k = some a
 | [], [], yss, bbs, σ, ex, K, hr, _, hV, _, _ => ⟨[], σ, yss, [], bbs, hr, rfl, rfl, fun _ => rfl, by simp, rfl, rfl, hV, by simp⟩
 | bk0 :: bks, (s, ks) :: bk, ys :: yss, bs0 :: bbs, σ, ex, K, hr, hB, ⟨hV, hVs⟩, hn, hm => by
  simp only [Gg, run_bind] at hr
  simp only [List.flatMap_cons] at hn hm
  obtain ⟨n1, n2, n3⟩ := List.nodup_append.1 hn
  have hmain : BkR g mem0 bks bk ∧ ∃ R1 σ1, (Gg bk yss).run tab σ1 K = some r ∧ R1.map RE.k = ks ∧ σ1.ts = σ.ts ∧ (∀ k, σ1.mem k = Mm R1 mem0 σ.mem k) ∧ (∀ z ∈ R1, REok w' S' g mem0 z) ∧ R1.flatMap RE.bs = bs0 ∧
    ∀ a ∈ bk0.rows, ∃ z ∈ R1, z.s = false ∧ g.ad z.k = some a := by
   cases bk0 with
   | lent v =>
    match s, ks, hB, n1, hm, hr with
    | true, [k], ⟨⟨hv, m, t, l, v0, v1, he, hmo⟩, hB⟩, n1, hm, hr =>
     obtain ⟨m', t', l', hy, hmo', hrd⟩ := hV
     obtain ⟨R, σ1, h1, h2, h3, h4, h5, h6⟩ := Lp (w' := w') (S' := S') (mem0 := mem0) (Q := fun k u => u = g.hv k) (us := [v]) (bss := [bs0]) hr
      (by rw [hy]; exact ⟨hrd, trivial⟩) n1 (fun q hq => hm q (List.mem_append_left _ hq))
      (fun j q u hj hu => by
       cases j with
       | zero => simp at hj hu; subst hj; subst hu; exact hv.symm
       | succ j => simp at hj)
     refine ⟨hB, R, σ1, h1, h2, h3, h4, fun z hz => ?_, by simpa using h6, fun a ha => by simp [Bk.rows] at ha⟩
     obtain ⟨a1, a2, a3, a4, a5⟩ := h5 z hz
     exact ⟨a2, a4, fun _ => ⟨a3, a5 rfl⟩, fun hf => (by rw [a1] at hf; cases hf)⟩
    | false, _, hB, _, _, _ => exact hB.elim
    | true, [], hB, _, _, _ => exact hB.elim
    | true, _ :: _ :: _, hB, _, _, _ => exact hB.elim
   | row b o n =>
    cases s with
    | true => exact hB.elim
    | false =>
    obtain ⟨⟨k, rfl, had, hex⟩, hB⟩ := hB
    obtain ⟨us, bss, hlen, hcs, hbs, hcell⟩ := hV
    obtain ⟨R, σ1, h1, h2, h3, h4, h5, h6⟩ := Lp (w' := w') (S' := S') (mem0 := mem0) (Q := fun k u => ∃ b o, g.ad k = some (b, o) ∧ cellAt w' b o = some u) hr hcs n1 (fun q hq => hm q (List.mem_append_left _ hq))
      (fun j q u hj hu => by
       have hj' : j < n := by
        have := (List.getElem?_eq_some_iff.1 hj).1
        rwa [B7] at this
       rw [B5 _ _ _ hj'] at hj
       simp only [Option.some.injEq] at hj
       subst hj
       exact ⟨b, o + j, had j hj', hcell j u hu⟩)
    refine ⟨hB, R, σ1, h1, h2, h3, h4, fun z hz => ?_, by rw [h6, hbs], fun a ha => ?_⟩
    ·obtain ⟨a1, a2, a3, a4, a5⟩ := h5 z hz
     exact ⟨a2, a4, fun hf => (by rw [a1] at hf; cases hf), fun _ => a3⟩
    ·have hrow : ∀ (n o j0 : Nat), a ∈ Ft b o n → ∃ j, j < n ∧ a = (b, o + j) := by
      intro n
      induction n with
      | zero => intro o j0 h; simp [Ft] at h
      | succ n ih =>
       intro o j0 h
       simp only [Ft, List.mem_cons] at h
       rcases h with rfl | h
       ·exact ⟨0, by omega, rfl⟩
       ·obtain ⟨j, h1, h2⟩ := ih (o + 1) j0 h
        exact ⟨j + 1, by omega, by rw [h2]; congr 1; omega⟩
     obtain ⟨j, hj, rfl⟩ := hrow n o 0 ha
     have hk : k + j ∈ R.map RE.k := by
      rw [h2]
      exact List.mem_of_getElem? (B5 k n j hj)
     obtain ⟨z, hz, hzk⟩ := List.mem_map.1 hk
     exact ⟨z, hz, (h5 z hz).1, by rw [hzk]; exact had j hj⟩
  obtain ⟨hB, R1, σ1, hr, c1, c2, c3, c4, c5, c6⟩ := hmain
  have hsep : ∀ k ∈ bk.flatMap (·.2), fR R1 k = none := fun k hk => by
   cases hf : fR R1 k with
   | none => rfl
   | some z =>
    obtain ⟨hz, hzk⟩ := Bm hf
    exact absurd rfl (n3 k (by rw [← c1, ← hzk]; exact List.mem_map_of_mem hz) k hk)
  obtain ⟨R2, σ2, rest, bb1, bb2, hr, d1, d2, d3, d4, d5, d5', d5'', d6⟩ := Ml (mem0 := mem0) hr hB hVs n2 (fun k hk => by rw [c3]; simp only [Mm, hsep k hk]; exact hm k (List.mem_append_right _ hk))
  refine ⟨R1 ++ R2, σ2, rest, bs0 :: bb1, bb2, hr, by simp [c1, d1], d2.trans c2, fun k => ?_, fun z hz => (List.mem_append.1 hz).elim (c4 z) (d4 z), by simp [c5, d5], by rw [d5']; rfl, d5'', fun a ha => ?_⟩
  ·rw [d3]
   simp only [Mm, Xs0, c3]
   cases h1 : fR R1 k with
   | none => cases fR R2 k <;> rfl
   | some z =>
    have : fR R2 k = none := by
     cases hf : fR R2 k with
     | none => rfl
     | some z2 =>
      obtain ⟨hz2, hk2⟩ := Bm hf
      have := hsep k (by rw [← d1, ← hk2]; exact List.mem_map_of_mem hz2)
      rw [h1] at this; cases this
    simp [this]
  ·simp only [List.flatMap_cons, List.mem_append] at ha
   rcases ha with ha | ha
   ·obtain ⟨z, hz, h1⟩ := c6 a ha; exact ⟨z, List.mem_append_left _ hz, h1⟩
   ·obtain ⟨z, hz, h1⟩ := d6 a ha; exact ⟨z, List.mem_append_right _ hz, h1⟩
 | [], _ :: _, _, _, _, _, _, _, h, _, _, _ => h.elim
 | .lent _ :: _, [], _, _, _, _, _, _, h, _, _, _ => h.elim
 | .row _ _ _ :: _, [], _, _, _, _, _, _, h, _, _, _ => h.elim
 | _ :: _, _ :: _, [], _, _, _, _, _, _, h, _, _ => h.elim
 | _ :: _, _ :: _, _ :: _, [], _, _, _, _, _, h, _, _ => h.elim
end
end Go.Rf
end

section
set_option linter.unusedVariables false
set_option linter.unusedSimpArgs false
namespace Go.Rf
theorem X55 {w : World} {S S' : Nat → Prop} : ∀ {t : Ty} {x : den t} {vs : List Value} {bs : List Nat}, Rd w S t .own x vs bs → Rd w S' t .own x vs bs := by
 intro t
 induction t with
 | int k => intro x vs bs h; exact h
 | bool => intro x vs bs h; exact h
 | str => intro x vs bs h; exact h
 | sl e ih =>
  rintro x vs bs ⟨y, rfl, ad, c, hy, hc, hx, hr⟩
  refine ⟨y, rfl, ad, c, hy, hc, hx, ?_⟩
  rcases hr with hr | ⟨b, o, bss, had, hlen, ho, hro, hh, hel⟩
  ·exact .inl hr
  ·refine .inr ⟨b, o, bss, had, hlen, ho, fun hf => by simp [Mode.isOwn] at hf, hh, fun i x b' hi hx hb' => ?_⟩
   obtain ⟨vs, hvs, hcell, hx'⟩ := hel i x b' hi hx hb'
   exact ⟨vs, hvs, hcell, ih hx'⟩
 | pair a b iha ihb =>
  rintro x vs bs ⟨v1, v2, b1, b2, rfl, rfl, h1, h2⟩
  exact ⟨v1, v2, b1, b2, rfl, rfl, iha h1, ihb h2⟩
section
variable {P : Program} {w w' : World} {g : Gh} {σ : St} {ts : Array Value} {H H' : Hand} {tab : Tab} {γ : Type} {r : γ}
theorem Ja : ∀ {qs : List Nat} {g : Gh} {σ : St} (h : Rel w g σ ts H) {K : Unit → St → Option γ} (hr : (F0 qs).run tab σ K = some r),
  ∃ g' σ', K () σ' = some r ∧ Rel w g' σ' ts H ∧ Mv w g σ H w g' σ' H ∧ (∀ q ∈ qs, ∀ b ∈ g.bl q, g'.S b) ∧ (∀ q b, b ∈ g.bl q → b ∈ g'.bl q ∨ g'.S b) ∧ (g'.hv = g.hv ∧ g'.ad = g.ad ∧ ∀ q, q ∉ qs → g'.bl q = g.bl q ∧ σ'.mem q = σ.mem q)
 | [], g, σ, h, K, hr => ⟨g, σ, hr, h, Mv.refl _ _ _ _, by simp, fun _ _ hb => .inl hb, rfl, rfl, fun _ _ => ⟨rfl, rfl⟩⟩
 | k :: qs, g, σ, h, K, hr => by
  simp only [F0, run_bind] at hr
  obtain ⟨e, he, hr⟩ := A2 hr
  obtain ⟨ec, v0, v1⟩ := e
  have hkeep : ∀ {g1 : Gh} {σ1 : St}, Rel w g1 σ1 ts H → Mv w g σ H w g1 σ1 H → (∀ b ∈ g.bl k, g1.S b) → (∀ q b, b ∈ g.bl q → b ∈ g1.bl q ∨ g1.S b) → (g1.hv = g.hv ∧ g1.ad = g.ad ∧ ∀ q, q ≠ k → g1.bl q = g.bl q ∧ σ1.mem q = σ.mem q) → (F0 qs).run tab σ1 K = some r →
    ∃ g' σ', K () σ' = some r ∧ Rel w g' σ' ts H ∧ Mv w g σ H w g' σ' H ∧ (∀ q ∈ k :: qs, ∀ b ∈ g.bl q, g'.S b) ∧ (∀ q b, b ∈ g.bl q → b ∈ g'.bl q ∨ g'.S b) ∧ (g'.hv = g.hv ∧ g'.ad = g.ad ∧ ∀ q, q ∉ k :: qs → g'.bl q = g.bl q ∧ σ'.mem q = σ.mem q) := by
   intro g1 σ1 h1 m1 hk1 hb1 hsame hr
   obtain ⟨g2, σ2, hr, h2, m2, hq2, hb2, e1, e2, e3⟩ := Ja h1 hr
   refine ⟨g2, σ2, hr, h2, m1.trans m2, fun q hq b hb => ?_, fun q b hb => ?_, e1.trans hsame.1, e2.trans hsame.2.1, fun q hq => ?_⟩
   ·rcases List.mem_cons.1 hq with rfl | hq
    ·exact m2.st.S b (hk1 b hb)
    ·rcases hb1 q b hb with h3 | h3
     ·exact hq2 q hq b h3
     ·exact m2.st.S b h3
   ·rcases hb1 q b hb with h3 | h3
    ·exact hb2 q b h3
    ·exact .inr (m2.st.S b h3)
   ·simp only [List.mem_cons, not_or] at hq
    obtain ⟨a1, a2⟩ := e3 q hq.2
    obtain ⟨b1, b2⟩ := hsame.2.2 q hq.1
    exact ⟨a1.trans b1, a2.trans b2⟩
  cases ec with
  | s m t l =>
   simp only at hr
   cases hm : m.isOwn with
   | true =>
    rw [hm] at hr
    simp only [cond_true, Pg.run] at hr
    obtain ⟨g1, h1, m1, hk1, hb1, e1, e2, e3⟩ := h.freezeKey he
    exact hkeep h1 m1 hk1 hb1 ⟨e1, e2, fun q hq => ⟨e3 q hq, by rw [St.mem_setM, if_neg hq]⟩⟩ hr
   | false =>
    rw [hm] at hr
    simp only [cond_false] at hr
    have hb := C4 (h.mem k _ he : Rd w g.S (.sl t) m l [g.hv k] (g.bl k)) hm
    exact hkeep h (Mv.refl _ _ _ _) (fun b hb' => by rw [hb] at hb'; cases hb') (fun _ _ hb => .inl hb) ⟨rfl, rfl, fun _ _ => ⟨rfl, rfl⟩⟩ hr
  | v x =>
   have hb : g.bl k = [] := (h.mem k _ he : _ ∧ _).2
   exact hkeep h (Mv.refl _ _ _ _) (fun b hb' => by rw [hb] at hb'; cases hb') (fun _ _ hb => .inl hb) ⟨rfl, rfl, fun _ _ => ⟨rfl, rfl⟩⟩ hr
  | _ => simp [Pg.run] at hr
theorem Rel.call (h : Rel w g σ ts H) (hfrm : ∀ q, q < w.heap.size → q ∉ H.bs → w'.heap[q]? = w.heap[q]?) (hsz : w.heap.size ≤ w'.heap.size) (hio : Io w w') {S' : Nat → Prop}
  (hS : ∀ b, g.S b → S' b) (hS2 : ∀ b, S' b → g.S b ∨ b ∈ H.bs ∨ w.heap.size ≤ b) (hSlt : ∀ b, S' b → b < w'.heap.size)
  (hbs : ∀ b ∈ H'.bs, b ∈ H.bs ∨ w.heap.size ≤ b) (hSd : ∀ b ∈ H'.bs, ¬ S' b) (hnd : H'.bs.Nodup) (hand : ∀ x ∈ H', LfV w' S' x.1 x.2.1 x.2.2) :
  Rel w' { g with S := S' } σ ts H' ∧ Mv w g σ H w' { g with S := S' } σ H' := by
 have hold : ∀ b, (g.S b ∨ ∃ k, b ∈ g.bl k) → w'.heap[b]? = w.heap[b]? := by
  intro b hb
  refine hfrm b (h.old (hb.imp id .inl)) fun hh => ?_
  rcases hb with hb | ⟨k, hb⟩
  ·exact (h.st b hb).2.1 hh
  ·exact h.hdj k b hb hh
 have hst : Step w g σ.mem w' { g with S := S' } σ.mem := Step.world h hold hS (fun _ _ h => h) rfl
 refine ⟨⟨fun k e he => (h.mem k e he).step hst fun b hb => hold b (hb.imp id fun h => ⟨k, h⟩), ?_, h.inj, h.pres, fun t => (h.tmps t).step hst fun b hb => hold b (.inl hb), h.len, h.nd, h.dj, ?_, ?_, hnd,
  fun k b hb hb' => ?_, hand⟩, hst, fun b hb => ?_, fun b hb => ?_, fun _ _ h => .inl h, hsz, hio⟩
 ·intro k b o ha
  obtain ⟨h1, h2⟩ := h.cell k b o ha
  have := hfrm b (h.adlt ha) (h.box k b o ha).2.1
  exact ⟨(A4 this).trans h1, h2.same this⟩
 ·intro k b o ha
  obtain ⟨h1, h2, h3⟩ := h.box k b o ha
  have hlt := h.adlt ha
  refine ⟨h1, fun hb => (hbs b hb).elim h2 (by omega), fun hb => ?_⟩
  rcases hS2 b hb with h4 | h4 | h4
  ·exact h3 h4
  ·exact h2 h4
  ·omega
 ·intro b hb
  refine ⟨fun k hk => ?_, fun hb' => hSd b hb' hb, hSlt b hb⟩
  rcases hS2 b hb with h4 | h4 | h4
  ·exact (h.st b h4).1 k hk
  ·exact h.hdj k b hk h4
  ·have := h.bllt k b hk; omega
 ·rcases hbs b hb' with h4 | h4
  ·exact h.hdj k b hb h4
  ·have := h.bllt k b hb; omega
 ·rcases hb with hb | hb
  ·exact .inl (.inl hb)
  ·exact (hbs b hb).imp .inr id
 ·rcases hS2 b hb with h4 | h4 | h4
  ·exact .inl h4
  ·exact .inr (.inl (.inr h4))
  ·exact .inr (.inr h4)
def TupH : Bool × List Leaf → Value → Hand → Prop
 | (false, [x]), z, H => ∃ bs, H = [(x, z, bs)]
 | (true, xs), z, H => ∃ us bss, z = .agg us.toArray ∧ xs.length = us.length ∧ bss.length = us.length ∧ H = hz xs us bss
 | _, _, _ => False
def TupHs : List (Bool × List Leaf) → List Value → Hand → Prop
 | [], [], H => H = []
 | x :: xs, z :: zs, H => ∃ H1 H2, H = H1 ++ H2 ∧ TupH x z H1 ∧ TupHs xs zs H2
 | _, _, _ => False
def ResH : A → Value → Hand → Prop
 | .one x, z, H => ∃ bs, H = [(x, z, bs)]
 | .agg xs, z, H => TupH (true, xs) z H
 | .tup xs, z, H => ∃ us, z = .tuple us.toArray ∧ TupHs xs us H
theorem X0v {S : Nat → Prop} : ∀ {xs : List Leaf} {ys : List Value} {bss : List (List Nat)}, Cs w S xs ys bss → ∀ z ∈ hz xs ys bss, LfV w S z.1 z.2.1 z.2.2
 | [], [], [], _, z, hz' => by simp [hz] at hz'
 | x :: xs, y :: ys, b :: bss, ⟨h1, h2⟩, z, hz' => by
  simp only [hz, List.mem_cons] at hz'
  rcases hz' with rfl | hz'
  ·exact h1
  ·exact X0v h2 z hz'
 | [], _ :: _, _, h, _, _ => h.elim
 | [], [], _ :: _, h, _, _ => h.elim
 | _ :: _, [], _, h, _, _ => h.elim
 | _ :: _, _ :: _, [], h, _, _ => h.elim
theorem Xhj {S : Nat → Prop} {x : Bool × List Leaf} {v : Value} {bs : List Nat} (h : Mk w S x v bs) : ∃ H, TupH x v H ∧ H.bs = bs ∧ ∀ z ∈ H, LfV w S z.1 z.2.1 z.2.2 := by
 obtain ⟨f, xs⟩ := x
 cases f with
 | true =>
  obtain ⟨us, bss, h1, h2, h3⟩ := h
  obtain ⟨l1, l2⟩ := Ji h2
  exact ⟨_, ⟨us, bss, h1, l1, l2, rfl⟩, by rw [Un l1 l2, h3], X0v h2⟩
 | false =>
  match xs, h with
  | [x], h => exact ⟨_, ⟨bs, rfl⟩, by simp [Hand.bs], fun z hz => by have hz := List.mem_singleton.1 hz; subst hz; exact h⟩
theorem Xb0 {S : Nat → Prop} : ∀ {xs : List (Bool × List Leaf)} {vs : List Value} {bss : List (List Nat)}, Lb w S xs vs bss → ∃ H, TupHs xs vs H ∧ H.bs = bss.flatten ∧ ∀ z ∈ H, LfV w S z.1 z.2.1 z.2.2
 | [], [], [], _ => ⟨[], rfl, rfl, by simp⟩
 | x :: xs, v :: vs, b :: bss, ⟨h1, h2⟩ => by
  obtain ⟨H1, a1, a2, a3⟩ := Xhj h1
  obtain ⟨H2, b1, b2, b3⟩ := Xb0 h2
  exact ⟨H1 ++ H2, ⟨H1, H2, rfl, a1, b1⟩, by rw [Hand.bs_append, a2, b2]; rfl, fun z hz => (List.mem_append.1 hz).elim (a3 z) (b3 z)⟩
 | [], _ :: _, _, h => h.elim
 | [], [], _ :: _, h => h.elim
 | _ :: _, [], _, h => h.elim
 | _ :: _, _ :: _, [], h => h.elim
theorem Xv0 {S : Nat → Prop} {x : A} {v : Value} {bs : List Nat} (h : Uz w S x v bs) : ∃ H, ResH x v H ∧ H.bs = bs ∧ ∀ z ∈ H, LfV w S z.1 z.2.1 z.2.2 := by
 cases x with
 | one x => exact ⟨_, ⟨bs, rfl⟩, by simp [Hand.bs], fun z hz => by have hz := List.mem_singleton.1 hz; subst hz; exact h⟩
 | agg xs => exact Xhj (show Mk w S (true, xs) v bs from h)
 | tup xs =>
  obtain ⟨us, bss, h1, h2, h3⟩ := h
  obtain ⟨H, a1, a2, a3⟩ := Xb0 h2
  exact ⟨H, ⟨us, h1, a1⟩, by rw [a2, h3], a3⟩
theorem Ck : ∀ {xs : List Leaf} {us : List Value} {bss : List (List Nat)} {g : Gh} {σ : St} {H : Hand} {k : Nat} (h : Rel w g σ ts (hz xs us bss ++ H)) (l1 : xs.length = us.length) (l2 : bss.length = us.length)
  {K : List Leaf → St → Option γ} (hr : (Dn k xs).run tab σ K = some r),
  ∃ zs g' σ', K zs σ' = some r ∧ Rel w g' σ' ts H ∧ Mv w g σ (hz xs us bss ++ H) w g' σ' H ∧ LsR w g' σ'.mem zs us ∧ zs.length = xs.length
 | [], [], bss, g, σ, H, k, h, l1, l2, K, hr => by
  have : bss = [] := List.length_eq_zero_iff.1 l2
  subst this
  exact ⟨[], g, σ, hr, h, Mv.refl _ _ _ _, ⟨rfl, by simp⟩, rfl⟩
 | x :: xs, u :: us, b :: bss, g, σ, H, k, h, l1, l2, K, hr => by
  simp only [Dn, run_bind] at hr
  obtain ⟨z, g1, σ1, hr, h1, m1, hz1, _, _⟩ := B3 (H := hz xs us bss ++ H) h hr
  obtain ⟨zs, g2, σ2, hr, h2, m2, hz2, l3⟩ := Ck h1 (by simpa using l1) (by simpa using l2) hr
  refine ⟨z :: zs, g2, σ2, hr, h2, m1.trans m2, ⟨by simp [hz2.1], fun i x' z' h3 h4 => ?_⟩, by simp [l3]⟩
  cases i with
  | zero => simp at h3 h4; subst h3; subst h4; exact hz1.step m2.st fun _ _ => rfl
  | succ i => exact hz2.2 i x' z' (by simpa using h3) (by simpa using h4)
 | [], _ :: _, _, _, _, _, _, _, h, _, _, _ => by simp at h
 | _ :: _, [], _, _, _, _, _, _, h, _, _, _ => by simp at h
 | _ :: _, _ :: _, [], _, _, _, _, _, _, h, _, _ => by simp at h
theorem Qi : ∀ {xs : List (Bool × List Leaf)} {us : List Value} {g : Gh} {σ : St} {H H0 : Hand} {k : Nat} (h : Rel w g σ ts (H0 ++ H)) (hh : TupHs xs us H0)
  {K : List (Bool × List Leaf) → St → Option γ} (hr : (Nh k xs).run tab σ K = some r),
  ∃ zs g' σ', K zs σ' = some r ∧ Rel w g' σ' ts H ∧ Mv w g σ (H0 ++ H) w g' σ' H ∧ us.length = zs.length ∧
   ∀ (i : Nat) (q : Bool × List Leaf) (z : Value), zs[i]? = some q → us[i]? = some z → TR w g' σ'.mem q z
 | [], [], g, σ, H, H0, k, h, hh, K, hr => by
  have : H0 = [] := hh
  subst this
  exact ⟨[], g, σ, hr, h, Mv.refl _ _ _ _, rfl, by simp⟩
 | (f, x) :: xs, u :: us, g, σ, H, H0, k, h, ⟨H1, H2, he, hx, hxs⟩, K, hr => by
  subst he
  simp only [Nh, run_bind] at hr
  rw [List.append_assoc] at h
  have hstep : ∃ zs g1 σ1, ((Nh (k + x.length) xs).bind fun ys => Pg.ret ((f, zs) :: ys)).run tab σ1 K = some r ∧ Rel w g1 σ1 ts (H2 ++ H) ∧ Mv w g σ (H1 ++ (H2 ++ H)) w g1 σ1 (H2 ++ H) ∧ TR w g1 σ1.mem (f, zs) u := by
   cases f with
   | true =>
    obtain ⟨vs, bss, rfl, l1, l2, rfl⟩ := hx
    obtain ⟨zs, g1, σ1, hr, h1, m1, hz1, _⟩ := Ck h l1 l2 hr
    exact ⟨zs, g1, σ1, by rw [run_bind]; exact hr, h1, m1, vs, rfl, hz1⟩
   | false =>
    match x, hx, hr with
    | [x], ⟨b, he⟩, hr =>
     subst he
     have h' : Rel w g σ ts (hz [x] [u] [b] ++ (H2 ++ H)) := h
     obtain ⟨zs, g1, σ1, hr, h1, m1, hz1, l3⟩ := Ck h' rfl rfl hr
     refine ⟨zs, g1, σ1, by rw [run_bind]; exact hr, h1, m1, ?_⟩
     match zs, l3, hz1 with
     | [z], _, hz1 => exact hz1.2 0 z u rfl rfl
  obtain ⟨zs, g1, σ1, hr, h1, m1, ht⟩ := hstep
  rw [run_bind] at hr
  obtain ⟨ys, g2, σ2, hr, h2, m2, l2, ht2⟩ := Qi h1 hxs hr
  refine ⟨_, g2, σ2, hr, h2, by rw [List.append_assoc]; exact m1.trans m2, by simp [l2], fun i q z h3 h4 => ?_⟩
  cases i with
  | zero => simp at h3 h4; subst h3; subst h4; exact ht.step m2.st fun _ _ => rfl
  | succ i => exact ht2 i q z (by simpa using h3) (by simpa using h4)
 | [], _ :: _, _, _, _, _, _, _, h, _, _ => h.elim
 | _ :: _, [], _, _, _, _, _, _, h, _, _ => h.elim
theorem Xk0 {x : A} {v : Value} {H0 : Hand} {k : Nat} (h : Rel w g σ ts H0) (hh : ResH x v H0) {K : A → St → Option γ} (hr : (Xcg k x).run tab σ K = some r) :
  ∃ z g' σ', K z σ' = some r ∧ Rel w g' σ' ts [] ∧ Mv w g σ H0 w g' σ' [] ∧ AR w g' σ'.mem z v := by
 cases x with
 | one x =>
  obtain ⟨bs, rfl⟩ := hh
  simp only [Xcg, run_bind] at hr
  obtain ⟨z, g1, σ1, hr, h1, m1, hz1, _, _⟩ := B3 h hr
  exact ⟨_, g1, σ1, hr, h1, m1, hz1⟩
 | agg xs =>
  obtain ⟨us, bss, rfl, l1, l2, rfl⟩ := hh
  simp only [Xcg, run_bind] at hr
  have h' : Rel w g σ ts (hz xs us bss ++ []) := by rw [List.append_nil]; exact h
  obtain ⟨zs, g1, σ1, hr, h1, m1, hz1, _⟩ := Ck h' l1 l2 hr
  rw [List.append_nil] at m1
  exact ⟨_, g1, σ1, hr, h1, m1, us, rfl, hz1⟩
 | tup xs =>
  obtain ⟨us, rfl, hx⟩ := hh
  simp only [Xcg, run_bind] at hr
  have h' : Rel w g σ ts (H0 ++ []) := by rw [List.append_nil]; exact h
  obtain ⟨zs, g1, σ1, hr, h1, m1, l2, ht⟩ := Qi h' hx hr
  rw [List.append_nil] at m1
  exact ⟨_, g1, σ1, hr, h1, m1, us, rfl, l2, ht⟩
theorem Rc {S S' : Nat → Prop} {x : Leaf} {v : Value} {bs : List Nat} (h : LfV w S x v bs) (ha : Dj [x] = false) : LfV w S' x v bs := by
 cases x with
 | v z => exact h
 | s m t l =>
  cases m with
  | own => exact X55 (t := .sl t) h
  | _ => simp [Dj] at ha
 | _ => exact h.elim
theorem R6 {x : Leaf} {xs : List Leaf} (h : Dj (x :: xs) = false) : Dj [x] = false ∧ Dj xs = false := by
 cases x with
 | s m t l => cases m <;> simp_all [Dj]
 | _ => simp_all [Dj]
theorem Xea {S S' : Nat → Prop} : ∀ {xs : List Leaf} {vs : List Value} {bss : List (List Nat)}, Cs w S xs vs bss → Dj xs = false → Cs w S' xs vs bss
 | [], [], [], _, _ => trivial
 | x :: xs, v :: vs, b :: bss, ⟨h1, h2⟩, ha => ⟨Rc h1 (R6 ha).1, Xea h2 (R6 ha).2⟩
 | [], _ :: _, _, h, _ => h.elim
 | [], [], _ :: _, h, _ => h.elim
 | _ :: _, [], _, h, _ => h.elim
 | _ :: _, _ :: _, [], h, _ => h.elim
theorem Xbq {S S' : Nat → Prop} {x : Bool × List Leaf} {v : Value} {bs : List Nat} (h : Mk w S x v bs) (ha : Dj x.2 = false) : Mk w S' x v bs := by
 obtain ⟨f, xs⟩ := x
 cases f with
 | true => obtain ⟨us, bss, h1, h2, h3⟩ := h; exact ⟨us, bss, h1, Xea h2 ha, h3⟩
 | false =>
  match xs, h, ha with
  | [x], h, ha => exact Rc h ha
theorem V0 {S S' : Nat → Prop} : ∀ {xs : List (Bool × List Leaf)} {vs : List Value} {bss : List (List Nat)}, Lb w S xs vs bss → (xs.any fun (_, ys) => Dj ys) = false → Lb w S' xs vs bss
 | [], [], [], _, _ => trivial
 | x :: xs, v :: vs, b :: bss, ⟨h1, h2⟩, ha => by
  simp only [List.any_cons, Bool.or_eq_false_iff] at ha
  exact ⟨Xbq h1 ha.1, V0 h2 ha.2⟩
 | [], _ :: _, _, h, _ => h.elim
 | [], [], _ :: _, h, _ => h.elim
 | _ :: _, [], _, h, _ => h.elim
 | _ :: _, _ :: _, [], h, _ => h.elim
theorem Xsd {S S' : Nat → Prop} {x : A} {v : Value} {bs : List Nat} (h : Uz w S x v bs) (ha : Wh x = false) : Uz w S' x v bs := by
 cases x with
 | one x => exact Rc (show LfV w S x v bs from h) ha
 | agg xs => exact Xbq (show Mk w S (true, xs) v bs from h) ha
 | tup xs => obtain ⟨us, bss, h1, h2, h3⟩ := h; exact ⟨us, bss, h1, V0 h2 ha, h3⟩
theorem ObjLike.imp {p p' : Nat → Prop} {o1 o2 : Option Obj} (h : ObjLike p o1 o2) (hp : ∀ j, p j → p' j) : ObjLike p' o1 o2 := by
 rcases h with rfl | ⟨c1, c2, te, fz, e1, e2, hs, hj⟩
 ·exact .inl rfl
 ·exact .inr ⟨c1, c2, te, fz, e1, e2, hs, fun j h => hj j fun h' => h (hp j h')⟩
theorem V7 {b : Nat} {a : Nat × Nat} : ∀ {n o : Nat}, a ∈ Ft b o n → ∃ j, j < n ∧ a = (b, o + j)
 | 0, o, h => by simp [Ft] at h
 | n + 1, o, h => by
  simp only [Ft, List.mem_cons] at h
  rcases h with rfl | h
  ·exact ⟨0, by omega, rfl⟩
  ·obtain ⟨j, h1, h2⟩ := V7 h
   exact ⟨j + 1, by omega, by rw [h2]; congr 1; omega⟩
theorem BkR.rows {g : Gh} {mem : Mem} : ∀ {bks : List Bk} {bk : List (Bool × List Nat)}, BkR g mem bks bk → ∃ ks, List.Sublist ks (bk.flatMap (·.2)) ∧ (bks.flatMap Bk.rows).map some = ks.map g.ad
 | [], [], _ => ⟨[], List.Sublist.refl _, rfl⟩
 | .lent v :: r, (true, [k]) :: q, ⟨_, h⟩ => by
  obtain ⟨ks, h1, h2⟩ := BkR.rows h
  exact ⟨ks, by simpa using h1.cons k, by simpa [Bk.rows] using h2⟩
 | .row b o n :: r, (false, ks0) :: q, ⟨⟨k, hks, had, _⟩, h⟩ => by
  subst hks
  obtain ⟨ks, h1, h2⟩ := BkR.rows h
  refine ⟨Ay k n ++ ks, by simpa using (List.Sublist.refl (Ay k n)).append h1, ?_⟩
  simp only [List.flatMap_cons, List.map_append, h2, Bk.rows]
  congr 1
  have : ∀ (n k o : Nat), (∀ j, j < n → g.ad (k + j) = some (b, o + j)) → (Ft b o n).map some = (Ay k n).map g.ad := by
   intro n
   induction n with
   | zero => intro k o _; rfl
   | succ n ih =>
    intro k o hh
    simp only [Ft, Ay, List.map_cons]
    rw [ih (k + 1) (o + 1) fun j hj => by have := hh (j + 1) (by omega); rwa [show k + 1 + j = k + (j + 1) by omega, show o + 1 + j = o + (j + 1) by omega]]
    have := hh 0 (by omega)
    simp only [Nat.add_zero] at this
    rw [this]
  exact this n k o had
 | [], _ :: _, h => h.elim
 | .lent _ :: _, [], h => h.elim
 | .row _ _ _ :: _, [], h => h.elim
 | .lent _ :: _, (false, _) :: _, h => h.elim
 | .lent _ :: _, (true, []) :: _, h => h.elim
 | .lent _ :: _, (true, _ :: _ :: _) :: _, h => h.elim
 | .row _ _ _ :: _, (true, _) :: _, h => h.elim
theorem LdR.rows {w : World} {g : Gh} {mem : Mem} : ∀ {bks : List Bk} {bk : List LB} {ps rs : List (List Nat)}, LdR w g mem bks bk ps rs → ∃ ks, List.Sublist ks ((bk.map (·.1)).flatMap (·.2)) ∧ (bks.flatMap Bk.rows).map some = ks.map g.ad
 | [], [], [], [], _ => ⟨[], List.Sublist.refl _, rfl⟩
 | b :: r, (z, o) :: q, p :: ps, rr :: rs, ⟨h1, h2⟩ => by
  obtain ⟨ks, a1, a2⟩ := LdR.rows h2
  cases o with
  | none =>
   obtain ⟨ks0, b1, b2⟩ := (show _ ∧ _ from h1).1.rows
   refine ⟨ks0 ++ ks, by simpa using b1.append a1, ?_⟩
   simp only [List.flatMap_cons, List.map_append, a2]
   congr 1
   simpa using b2
  | some ec =>
   obtain ⟨v, k, rfl, rfl, _⟩ := h1
   exact ⟨ks, by simpa using a1.cons k, by simpa [Bk.rows] using a2⟩
 | [], _ :: _, _, _, h => h.elim
 | [], [], _ :: _, _, h => h.elim
 | [], [], [], _ :: _, h => h.elim
 | _ :: _, [], _, _, h => h.elim
 | _ :: _, _ :: _, [], _, h => h.elim
 | _ :: _, _ :: _, _ :: _, [], h => h.elim
theorem Oc {w w' : World} {g : Gh} {σ : St} {S' : Nat → Prop} {tab : Tab} {γ : Type} {r : γ} {ex : List Bk} (hS : ∀ b, g.S b → S' b) :
  ∀ {bks : List Bk} {bk : List LB} {ps rs : List (List Nat)} {yss : List (List Leaf)} {bbs : List (List Nat)} {K : List (List Leaf) → St → Option γ},
  LdR w g σ.mem bks bk ps rs → BacksV w' S' (bks ++ ex) yss bbs → (∀ b, g.S b ∨ b ∈ rs.flatten → w'.heap[b]? = w.heap[b]?) → (Qw bk yss).run tab σ K = some r →
  ∃ bks' yss' bbs', K yss' σ = some r ∧ BkR g σ.mem bks' (bk.map (·.1)) ∧ BacksV w' S' (bks' ++ ex) yss' bbs' ∧ bbs'.flatten.Perm (bbs.flatten ++ rs.flatten) ∧ bks'.flatMap Bk.rows = bks.flatMap Bk.rows
 | [], [], [], [], yss, bbs, K, _, hV, _, hr => ⟨[], yss, bbs, by cases yss <;> exact hr, trivial, hV, by simp, rfl⟩
 | b :: bks, (z, o) :: bk, p :: ps, q :: rs, ys :: yss, bb :: bbs, K, ⟨h1, h2⟩, ⟨hV, hVs⟩, hw, hr => by
  cases o with
  | none =>
   have hr' : (Qw bk yss).run tab σ (fun zs σ' => K (ys :: zs) σ') = some r := by
    have : Qw ((z, none) :: bk) (ys :: yss) = (Qw bk yss).bind fun zs => .ret (ys :: zs) := by
     obtain ⟨s, ks⟩ := z
     cases s with
     | false => rfl
     | true => cases ks with
      | nil => rfl
      | cons k ks => cases ks <;> rfl
    rw [this, run_bind] at hr
    exact hr
   obtain ⟨h3, rfl, rfl⟩ := (h1 : _ ∧ _ ∧ _)
   obtain ⟨bks', yss', bbs', a1, a2, a3, a4, a5⟩ := Oc hS h2 hVs (fun b hb => hw b (by simpa using hb)) hr'
   refine ⟨b :: bks', ys :: yss', bb :: bbs', a1, BkR.cons.2 ⟨h3, a2⟩, ⟨hV, a3⟩, ?_, by simp [a5]⟩
   simp only [List.flatten_cons, List.nil_append, List.append_assoc]
   exact List.Perm.append_left _ a4
  | some ec =>
   obtain ⟨e, c⟩ := ec
   obtain ⟨v, k, rfl, rfl, t, l, v0, v1, he, hp, hcl⟩ := h1
   simp only [Qw, Xzm, run_bind] at hr
   obtain ⟨x, hx, hr1⟩ := A2 hr
   clear hr
   rw [he] at hx; cases hx
   simp only at hr1
   split at hr1
   ·rename_i z hz
    have hr := hr1
    clear hr1
    simp only [Pg.run] at hr
    obtain ⟨m', t', l', rfl, hmo, hrd⟩ := hV
    obtain ⟨bs, b1, b2⟩ := hcl w' S' hS (fun b hb => hw b (hb.imp id fun h => by simp [h])) (.s m' t' l') bb z hrd hz
    obtain ⟨bks', yss', bbs', a1, a2, a3, a4, a5⟩ := Oc hS h2 hVs (fun b hb => hw b (hb.imp id fun h => by simp [h])) hr
    refine ⟨.lent (g.hv k) :: bks', _, bs :: bbs', a1, ⟨⟨rfl, .own, t, l, v0, v1, he, rfl⟩, a2⟩, ⟨⟨.own, t, _, rfl, rfl, b2⟩, a3⟩, ?_, by simp [a5, Bk.rows]⟩
    simp only [List.flatten_cons]
    rw [List.perm_iff_count] at b1 a4 ⊢
    intro a
    have e1 := b1 a
    have e2 := a4 a
    simp only [List.count_append] at e1 e2 ⊢
    omega
   ·simp [Pg.run] at hr1
 | [], _ :: _, _, _, _, _, _, h, _, _, _ => h.elim
 | [], [], _ :: _, _, _, _, _, h, _, _, _ => h.elim
 | [], [], [], _ :: _, _, _, _, h, _, _, _ => h.elim
 | _ :: _, [], _, _, _, _, _, h, _, _, _ => h.elim
 | _ :: _, _ :: _, [], _, _, _, _, h, _, _, _ => h.elim
 | _ :: _, _ :: _, _ :: _, [], _, _, _, h, _, _, _ => h.elim
 | _ :: _, _ :: _, _ :: _, _ :: _, [], _, _, _, h, _, _ => h.elim
 | _ :: _, _ :: _, _ :: _, _ :: _, _ :: _, [], _, _, h, _, _ => h.elim
theorem Xa6 {g : Gh} (hi : ∀ k k' a, g.ad k = some a → g.ad k' = some a → k = k') : ∀ {ks : List Nat} {as : List (Nat × Nat)}, as.map some = ks.map g.ad → ks.Nodup → as.Nodup
 | [], [], _, _ => List.nodup_nil
 | k :: ks, a :: as, h, hn => by
  simp only [List.map_cons, List.cons.injEq] at h
  obtain ⟨n1, n2⟩ := List.nodup_cons.1 hn
  refine List.nodup_cons.2 ⟨fun ha => ?_, Xa6 hi h.2 n2⟩
  have : some a ∈ ks.map g.ad := by rw [← h.2]; exact List.mem_map_of_mem ha
  obtain ⟨k', hk', he⟩ := List.mem_map.1 this
  exact n1 (by rw [hi k k' a h.1.symm he]; exact hk')
 | [], _ :: _, h, _ => by simp at h
 | _ :: _, [], h, _ => by simp at h
theorem BkR.same {g g' : Gh} {mem mem' : Mem} (hhv : g'.hv = g.hv) (had : g'.ad = g.ad) : ∀ {bks : List Bk} {bk : List (Bool × List Nat)}, BkR g mem bks bk → (∀ k ∈ bk.flatMap (·.2), mem' k = mem k) → BkR g' mem' bks bk
 | [], [], _, _ => trivial
 | .lent v :: r, (true, [k]) :: q, ⟨⟨h1, m, t, l, v0, v1, h2, h3⟩, h⟩, hm => by
  simp only [List.flatMap_cons, List.mem_append] at hm
  exact ⟨⟨by rw [hhv]; exact h1, m, t, l, v0, v1, by rw [hm k (.inl (by simp))]; exact h2, h3⟩, BkR.same hhv had h fun k hk => hm k (.inr hk)⟩
 | .row b o n :: r, (false, ks0) :: q, ⟨⟨k, h1, h2, h3⟩, h⟩, hm => by
  simp only [List.flatMap_cons, List.mem_append] at hm
  exact ⟨⟨k, h1, by rw [had]; exact h2, fun k' hk' => by rw [hm k' (.inl hk')]; exact h3 k' hk'⟩, BkR.same hhv had h fun k hk => hm k (.inr hk)⟩
 | [], _ :: _, h, _ => h.elim
 | .lent _ :: _, [], h, _ => h.elim
 | .row _ _ _ :: _, [], h, _ => h.elim
 | .lent _ :: _, (false, _) :: _, h, _ => h.elim
 | .lent _ :: _, (true, []) :: _, h, _ => h.elim
 | .lent _ :: _, (true, _ :: _ :: _) :: _, h, _ => h.elim
 | .row _ _ _ :: _, (true, _) :: _, h, _ => h.elim
theorem Uq {S S' : Nat → Prop} : ∀ {bks : List Bk} {yss : List (List Leaf)} {bbs : List (List Nat)}, BacksV w S bks yss bbs → (yss.any Dj) = false → BacksV w S' bks yss bbs
 | [], [], [], _, _ => trivial
 | k :: ks, y :: ys, b :: bs, ⟨h1, h2⟩, ha => by
  simp only [List.any_cons, Bool.or_eq_false_iff] at ha
  refine ⟨?_, Uq h2 ha.2⟩
  cases k with
  | lent v =>
   obtain ⟨m, t, l, e, hm, h⟩ := h1
   rw [e] at ha
   exact ⟨m, t, l, e, hm, Rc (show LfV w S (.s m t l) v b from h) ha.1⟩
  | row b o n =>
   obtain ⟨us, bss, e1, e2, e3, e4⟩ := h1
   exact ⟨us, bss, e1, Xea e2 ha.1, e3, e4⟩
 | [], _ :: _, _, h, _ => h.elim
 | [], [], _ :: _, h, _ => h.elim
 | _ :: _, [], _, h, _ => h.elim
 | _ :: _, _ :: _, [], h, _ => h.elim
theorem So {S S' : Nat → Prop} (hS : ∀ b, S b → S' b) : ∀ {bks : List Bk} {yss : List (List Leaf)} {bbs : List (List Nat)}, BacksV w S bks yss bbs → BacksV w S' bks yss bbs
 | [], [], [], _ => trivial
 | k :: ks, y :: ys, b :: bs, ⟨h1, h2⟩ => by
  refine ⟨?_, So hS h2⟩
  cases k with
  | lent v =>
   obtain ⟨m, t, l, e, hm, h⟩ := h1
   exact ⟨m, t, l, e, hm, Rd.imp hS h fun _ _ => rfl⟩
  | row b o n =>
   obtain ⟨us, bss, e1, e2, e3, e4⟩ := h1
   exact ⟨us, bss, e1, F8 hS e2 (fun _ _ => rfl), e3, e4⟩
 | [], _ :: _, _, h => h.elim
 | [], [], _ :: _, h => h.elim
 | _ :: _, [], _, h => h.elim
 | _ :: _, _ :: _, [], h => h.elim
theorem Xbh {S S' : Nat → Prop} (hS : ∀ b, S b → S' b) {x : A} {v : Value} {bs : List Nat} (hR : Uz w S x v bs) : Uz w S' x v bs := by
 have hT1 : ∀ {x : Bool × List Leaf} {v : Value} {bs : List Nat}, Mk w S x v bs → Mk w S' x v bs := by
  rintro ⟨f, xs⟩ v bs hR
  cases f with
  | true => obtain ⟨us, bss, a1, a2, a3⟩ := hR; exact ⟨us, bss, a1, F8 hS a2 fun _ _ => rfl, a3⟩
  | false =>
   match xs, hR with
   | [x], hR => exact LfV.imp (show LfV w S x v bs from hR) hS fun _ _ => rfl
 cases x with
 | one x => exact LfV.imp (show LfV w S x v bs from hR) hS fun _ _ => rfl
 | agg xs => exact hT1 (show Mk w S (true, xs) v bs from hR)
 | tup xs =>
  obtain ⟨us, bss, a1, a2, a3⟩ := hR
  refine ⟨us, bss, a1, ?_, a3⟩
  have : ∀ {xs : List (Bool × List Leaf)} {vs : List Value} {bss : List (List Nat)}, Lb w S xs vs bss → Lb w S' xs vs bss := by
   intro xs
   induction xs with
   | nil => intro vs bss h; cases vs <;> cases bss <;> first | trivial | exact h.elim
   | cons x xs ih =>
    intro vs bss h
    cases vs with
    | nil => exact h.elim
    | cons v vs => cases bss with
     | nil => exact h.elim
     | cons b bss => exact ⟨hT1 h.1, ih h.2⟩
  exact this a2
theorem Xmf {S S' : Nat → Prop} (hS : ∀ b, S b → S' b) {x : A} {v : Value} {bs : List Nat} (hR : ResP w S x v bs) : ResP w S' x v bs := by
 unfold ResP at hR ⊢
 split at hR
 ·exact hR
 ·exact Xbh hS hR
theorem Xnr {S S' : Nat → Prop} {x : A} {v : Value} {bs : List Nat} (hR : ResP w S x v bs) (ha : Wh x = false) : ResP w S' x v bs := by
 unfold ResP at hR ⊢
 split at hR
 ·exact hR
 ·exact Xsd hR ha
theorem Xo0 {S : Nat → Prop} {g : Gh} {mem : Mem} (hg : g.S = S) : ∀ {ys : List Leaf} {us : List Value} {bss : List (List Nat)}, Cs w S ys us bss → ys.all roC = true → LsR w g mem ys us
 | [], [], [], _, _ => ⟨rfl, by simp⟩
 | y :: ys, u :: us, b :: bss, ⟨h1, h2⟩, ha => by
  simp only [List.all_cons, Bool.and_eq_true] at ha
  have ih := Xo0 (g := g) (mem := mem) hg h2 ha.2
  refine ⟨by simp [ih.1], fun i x z hx hz => ?_⟩
  cases i with
  | zero =>
   simp at hx hz
   subst hx; subst hz
   cases y with
   | v x => exact ⟨h1.1, rfl⟩
   | s m t l =>
    have hm : m.isOwn = false := by simpa [roC] using ha.1
    have hrd : Rd w S (.sl t) m l [u] b := h1
    have := C4 hrd hm
    subst this
    subst hg
    exact hrd
   | _ => exact h1.elim
  | succ i => exact ih.2 i x z (by simpa using hx) (by simpa using hz)
 | [], _ :: _, _, h, _ => h.elim
 | [], [], _ :: _, h, _ => h.elim
 | _ :: _, [], _, h, _ => h.elim
 | _ :: _, _ :: _, [], h, _ => h.elim
theorem Xa0 (h : Rel w g σ ts H) : ∀ {ks : List Nat}, ks.Nodup → (ks.flatMap g.bl).Nodup
 | [], _ => List.nodup_nil
 | k :: ks, hn => by
  obtain ⟨n1, n2⟩ := List.nodup_cons.1 hn
  simp only [List.flatMap_cons]
  refine List.nodup_append.2 ⟨h.nd k, Xa0 h n2, fun b hb b' hb' he => ?_⟩
  subst he
  obtain ⟨k', hk', hb'⟩ := List.mem_flatMap.1 hb'
  exact h.dj k k' (fun he => n1 (by rw [he]; exact hk')) b hb hb'
theorem Xjw {E : Env} (hT : TabOk P tab) (h : Rel w g σ ts []) {xs : List A} {us : List Value} (hx : ArgsR w g σ.mem xs us) {d f : Nat} {x : A} {σ' : St}
  (hr : (Xaf E d f xs).run tab σ (fun a s => some (a, s)) = some (x, σ')) :
  Calls P f us.toArray w fun e w' => ∃ v, e = .returned v ∧ ∃ g', Rel w' g' σ' ts [] ∧ AR w' g' σ'.mem x v ∧ Mv w g σ [] w' g' σ' [] ∧ Frm w g w' := by
 simp only [Xaf, run_bind] at hr
 obtain ⟨ga, σa, hr, ha, ma⟩ := Dk (fun a _ _ _ h hr => Xbt h hr) _ h hr
 have args_st : ∀ {g2 : Gh} {σ2 : St} {H2 : Hand}, Mv w g σ [] w g2 σ2 H2 → ∀ {xs : List A} {us : List Value}, ArgsR w g σ.mem xs us → ArgsR w g2 σ2.mem xs us := by
  intro g2 σ2 H2 m2 xs
  induction xs with
  | nil => intro us h; cases us with
   | nil => trivial
   | cons _ _ => exact h.elim
  | cons x xs ih => intro us h; cases us with
   | nil => exact h.elim
   | cons u us => exact ⟨h.1.step m2.st fun _ _ => rfl, ih h.2⟩
 obtain ⟨ys, bss, g1, σ1, hr, hok, h1, m1⟩ := Pr ha (args_st ma hx) hr
 rw [List.append_nil] at h1 m1
 replace m1 := ma.trans m1
 have hbs := Xrb hok
 have hx1 : ArgsR w g1 σ1.mem xs us := args_st m1 hx
 obtain ⟨as, qs, bk0, bss', ps, rs, hr, has, hld, hperm⟩ := Vs h1 (fun z hz => hz) hok hx1 hr
 simp only [run_bind] at hr
 obtain ⟨hsep, hr⟩ := An hr
 generalize hbk0 : bk0.map (·.1) = bk at hsep
 have hpr := hld.perm
 rw [hbk0] at hpr
 simp only [sepK, Bool.and_eq_true] at hsep
 have hkn := Ip hsep.1
 have hkq : ∀ k ∈ bk.flatMap (·.2), k ∉ qs := fun k hk hq => by
  have := List.all_eq_true.1 hsep.2 k hk
  rw [Tc hq] at this; simp at this
 have hmem' : ∀ b, b ∈ bss'.flatten → b ∈ Hand.bs (mh ys us bss) ∨ ∃ k ∈ bk.flatMap (·.2), b ∈ g1.bl k := fun b hb => by
  have := hperm.mem_iff.1 hb
  rcases List.mem_append.1 this with h2 | h2
  ·exact .inl (by rw [hbs]; exact h2)
  ·exact .inr (List.mem_flatMap.1 (hpr.mem_iff.2 (List.mem_append_left _ h2)))
 have hrs : ∀ b, b ∈ rs.flatten → ∃ k ∈ bk.flatMap (·.2), b ∈ g1.bl k := fun b hb => List.mem_flatMap.1 (hpr.mem_iff.2 (List.mem_append_right _ hb))
 have hnd0 : (Hand.bs (mh ys us bss) ++ (bk.flatMap (·.2)).flatMap g1.bl).Nodup := by
  refine List.nodup_append.2 ⟨h1.hnd, Xa0 h1 hkn, fun b hb b' hb' he => ?_⟩
  subst he
  obtain ⟨k, _, hk⟩ := List.mem_flatMap.1 hb'
  exact h1.hdj k b hk hb
 have hnd1 : (bss'.flatten ++ rs.flatten).Nodup := by
  have h2 : (bss'.flatten ++ rs.flatten).Perm (Hand.bs (mh ys us bss) ++ (bk.flatMap (·.2)).flatMap g1.bl) := by
   rw [hbs]
   rw [List.perm_iff_count] at hperm hpr ⊢
   intro a
   have e1 := hperm a
   have e2 := hpr a
   simp only [List.count_append] at e1 e2 ⊢
   omega
  exact h2.nodup_iff.2 hnd0
 simp only [Pg.run] at hr
 cases hc : tab f as with
 | none => rw [hc] at hr; simp at hr
 | some cr =>
  rw [hc] at hr
  simp only at hr
  cases ho : cr.o with
  | none => rw [ho] at hr; simp at hr
  | some r' =>
   rw [ho] at hr
   simp only [Option.bind_some, run_bind] at hr
   have hnd : bss'.flatten.Nodup := (List.nodup_append.1 hnd1).1
   have hrow : ∀ a ∈ (Mh as us).flatMap Bk.rows, ∃ k, g1.ad k = some a := fun a ha => by
    obtain ⟨ks, _, h2⟩ := hld.rows
    have : some a ∈ ks.map g1.ad := by rw [← h2]; exact List.mem_map_of_mem ha
    obtain ⟨k, _, hk⟩ := List.mem_map.1 this
    exact ⟨k, hk⟩
   have hC := hT f as cr hc w (Bor g1 qs) us bss' has hnd
    (fun b hb hB => by
     rcases hmem' b hb with hb | ⟨k, hk, hb⟩
     ·rcases hB with hB | ⟨q, _, hB⟩
      ·exact (h1.st b hB).2.1 hb
      ·exact h1.hdj q b hB hb
     ·rcases hB with hB | ⟨q, hq, hB⟩
      ·exact (h1.st b hB).1 k hb
      ·exact h1.dj k q (fun he => hkq k hk (by rw [he]; exact hq)) b hb hB)
    (fun b hB => by
     rcases hB with hB | ⟨q, _, hB⟩
     ·exact (h1.st b hB).2.2
     ·exact h1.bllt q b hB)
    (by
     obtain ⟨ks, h2, h3⟩ := hld.rows
     rw [hbk0] at h2
     exact Xa6 h1.inj h3 (hkn.sublist h2))
    (fun a ha => by
     obtain ⟨k, hk⟩ := hrow a ha
     obtain ⟨b1, b2, b3⟩ := h1.box k a.1 a.2 hk
     refine ⟨fun hb => ?_, fun hB => ?_⟩
     ·rcases hmem' _ hb with hb | ⟨k', _, hb⟩
      ·exact b2 hb
      ·exact b1 k' hb
     ·rcases hB with hB | ⟨q, _, hB⟩
      ·exact b3 hB
      ·exact b1 q hB) r' ho
   refine Calls.mono hC ?_
   rintro e w' ⟨v, rfl, ⟨S', bs, bbs0, p1, p1', p2, p3, p4, p5, p6, p7, p8⟩, hsz, hio, hfrm⟩
   refine ⟨v, rfl, ?_⟩
   have hnrow : ∀ b o, ((∃ k, b ∈ g1.bl k) ∨ g1.S b) → (b, o) ∉ (Mh as us).flatMap Bk.rows := fun b o hb ho => by
    obtain ⟨k, hk⟩ := hrow _ ho
    obtain ⟨b1, _, b3⟩ := h1.box k b o hk
    exact hb.elim (fun ⟨k', hb⟩ => b1 k' hb) b3
   obtain ⟨bks, ylf, bbs, hr, hbk, p1', hpl, hrows'⟩ := Oc (w := w) (w' := w') (S' := S') (fun b hb => p4 b (.inl hb)) hld p1' (fun b hb => by
    rcases hb with hb | hb
    ·refine (hfrm b (h1.st b hb).2.2 fun ho => ?_).eq fun o => hnrow b o (.inr hb)
     rcases hmem' b ho with h5 | ⟨k, _, h5⟩
     ·exact (h1.st b hb).2.1 h5
     ·exact (h1.st b hb).1 k h5
    ·obtain ⟨k, hk, hb'⟩ := hrs b hb
     exact (hfrm b (h1.bllt k b hb') fun ho => (List.nodup_append.1 hnd1).2.2 b ho b hb rfl).eq fun o => hnrow b o (.inl ⟨k, hb'⟩)) hr
   rw [hbk0] at hbk hr
   have hrsS : ∀ b ∈ rs.flatten, ¬ S' b := fun b hb hS => by
    obtain ⟨k, hk, hb'⟩ := hrs b hb
    rcases p6 b hS with (h5 | ⟨q, hq, h5⟩) | h5 | h5
    ·exact (h1.st b h5).1 k hb'
    ·exact h1.dj k q (fun he => hkq k hk (by rw [he]; exact hq)) b hb' h5
    ·exact (List.nodup_append.1 hnd1).2.2 b h5 b hb rfl
    ·have := h1.bllt k b hb'; omega
   have hmemL : ∀ b, b ∈ bs ++ bbs.flatten ↔ b ∈ bs ++ bbs0.flatten ∨ b ∈ rs.flatten := fun b => by
    simp only [List.mem_append, hpl.mem_iff]
    constructor
    ·rintro (h | h | h)
     ·exact .inl (.inl h)
     ·exact .inl (.inr h)
     ·exact .inr h
    ·rintro ((h | h) | h)
     ·exact .inl h
     ·exact .inr (.inl h)
     ·exact .inr (.inr h)
   replace p2 : (bs ++ bbs.flatten).Nodup := by
    have h2 : (bs ++ bbs.flatten).Perm ((bs ++ bbs0.flatten) ++ rs.flatten) := by rw [List.append_assoc]; exact List.Perm.append_left _ hpl
    refine h2.nodup_iff.2 (List.nodup_append.2 ⟨p2, (List.nodup_append.1 hnd1).2.1, fun a ha b hb he => ?_⟩)
    subst he
    rcases p7 a ha with h5 | h5
    ·exact (List.nodup_append.1 hnd1).2.2 a h5 a hb rfl
    ·obtain ⟨k, _, hb'⟩ := hrs a hb
     have := h1.bllt k a hb'; omega
   replace p3 : ∀ b ∈ bs ++ bbs.flatten, ¬ S' b := fun b hb => ((hmemL b).1 hb).elim (p3 b) (hrsS b)
   replace p8 : ∀ a ∈ (resBk (cr.e r').1 v).flatMap Bk.rows, w.heap.size ≤ a.1 ∧ ¬ S' a.1 ∧ a.1 ∉ bs ++ bbs.flatten ∧ BlkOk w' a.1 (a.2 + 1) := fun a ha => by
    obtain ⟨q1, q2, q3, q4⟩ := p8 a ha
    refine ⟨q1, q2, fun hb => ((hmemL _).1 hb).elim q3 fun hb => ?_, q4⟩
    obtain ⟨k, _, hb'⟩ := hrs _ hb
    have := h1.bllt k _ hb'; omega
   generalize hown0 : Hand.bs (mh ys us bss) ++ (bk.flatMap (·.2)).flatMap g1.bl = own
   have hownM : ∀ b, b ∈ own ↔ b ∈ Hand.bs (mh ys us bss) ∨ ∃ k ∈ bk.flatMap (·.2), b ∈ g1.bl k := fun b => by
    rw [← hown0, List.mem_append, List.mem_flatMap]
   have hsubO : ∀ b, b ∈ bss'.flatten → b ∈ own := fun b hb => (hownM b).2 (hmem' b hb)
   replace p6 : ∀ b, S' b → Bor g1 qs b ∨ b ∈ own ∨ w.heap.size ≤ b := fun b hb => (p6 b hb).imp id fun h => h.imp (hsubO b) id
   replace p7 : ∀ b ∈ bs ++ bbs.flatten, b ∈ own ∨ w.heap.size ≤ b := fun b hb => by
    rcases (hmemL b).1 hb with h5 | h5
    ·exact (p7 b h5).imp (hsubO b) id
    ·exact .inl ((hownM b).2 (.inr (hrs b h5)))
   replace hfrm : ∀ q, q < w.heap.size → q ∉ own → ObjLike (fun o => (q, o) ∈ (Mh as us).flatMap Bk.rows) w.heap[q]? w'.heap[q]? := fun q hq ho => hfrm q hq fun h5 => ho (hsubO q h5)
   replace hmem' : ∀ b, b ∈ own → b ∈ Hand.bs (mh ys us bss) ∨ ∃ k ∈ bk.flatMap (·.2), b ∈ g1.bl k := fun b hb => (hownM b).1 hb
   rw [← hrows'] at hfrm hrow
   have hfr : Frm w g w' := by
    intro q hq hown
    refine (hfrm q hq fun hb => ?_).imp fun o ho => ?_
    ·rcases hmem' q hb with hb | ⟨k, _, hb⟩
     ·rcases m1.own q (.inr hb) with h5 | h5
      ·exact hown h5
      ·omega
     ·rcases m1.own q (.inl ⟨k, hb⟩) with h5 | h5
      ·exact hown h5
      ·omega
    ·obtain ⟨k, hk⟩ := hrow _ ho
     rcases m1.ad k _ hk with h5 | h5
     ·exact ⟨k, h5⟩
     ·simp only at h5; omega
   have key : ∃ gf σf S'', Rel w gf σf ts (mh ys us bss) ∧ Mv w g1 σ1 (mh ys us bss) w gf σf (mh ys us bss) ∧ ((Gg bk ylf).bind fun rest => Xg9 (G3 * d) (cr.e r').1 rest).run tab σf (fun a s => some (a, s)) = some (x, σ') ∧
     (gf.hv = g1.hv ∧ gf.ad = g1.ad ∧ ∀ q, q ∉ qs → gf.bl q = g1.bl q ∧ σf.mem q = σ1.mem q) ∧
     (∀ b, gf.S b → S'' b) ∧ (∀ b, S'' b → gf.S b ∨ b ∈ own ∨ w.heap.size ≤ b) ∧ (∀ b, S'' b → b < w'.heap.size) ∧ (∀ b ∈ bs ++ bbs.flatten, ¬ S'' b) ∧ ResP w' S'' (cr.e r').1 v bs ∧ BacksV w' S'' (bks ++ resBk (cr.e r').1 v) ylf bbs ∧ (∀ a ∈ (resBk (cr.e r').1 v).flatMap Bk.rows, ¬ S'' a.1) := by
    cases ha : (Wh (cr.e r').1 || ylf.any Dj) with
    | false =>
     rw [ha] at hr
     simp only [cond_false, Pg.run] at hr
     simp only [Bool.or_eq_false_iff] at ha
     refine ⟨g1, σ1, g1.S, h1, Mv.refl _ _ _ _, by rw [run_bind]; exact hr, ⟨rfl, rfl, fun _ _ => ⟨rfl, rfl⟩⟩, fun _ h => h, fun _ h => .inl h, fun b hb => ?_, fun b hb hS => p3 b hb (p4 b (.inl hS)), Xnr p1 ha.1, Uq p1' ha.2, fun a ha' hS => ?_⟩
     ·have := (h1.st b hb).2.2; omega
     ·have h3 := (h1.st _ hS).2.2
      have h4 := (p8 a ha').1; omega
    | true =>
     rw [ha] at hr
     simp only [cond_true] at hr
     obtain ⟨gf, σf, hr, hf, mf, hq, _, hsame⟩ := Ja h1 hr
     refine ⟨gf, σf, fun b => gf.S b ∨ S' b, hf, mf, by rw [run_bind]; exact hr, hsame, fun _ h => .inl h, ?_, ?_, ?_, Xmf (fun b hb => .inr hb) p1, So (fun b hb => .inr hb) p1', ?_⟩
     ·rintro b (hb | hb)
      ·exact .inl hb
      ·rcases p6 b hb with (hb | ⟨q, hq', hb⟩) | hb | hb
       ·exact .inl (mf.st.S b hb)
       ·exact .inl (hq q hq' b hb)
       ·exact .inr (.inl hb)
       ·exact .inr (.inr hb)
     ·rintro b (hb | hb)
      ·have := (hf.st b hb).2.2; omega
      ·exact p5 b hb
     ·rintro b hb (hS | hS)
      ·rcases p7 b hb with h5 | h5
       ·rcases hmem' b h5 with h6 | ⟨k, hk, h6⟩
        ·exact (hf.st b hS).2.1 h6
        ·exact (hf.st b hS).1 k (by rw [(hsame.2.2 k (hkq k hk)).1]; exact h6)
       ·have := (hf.st b hS).2.2; omega
      ·exact p3 b hb hS
     ·rintro a ha' (hS | hS)
      ·have h3 := (hf.st _ hS).2.2
       have h4 := (p8 a ha').1; omega
      ·exact (p8 a ha').2.1 hS
   obtain ⟨gf, σf, S'', hf, mf, hr, hsame, c1, c2, c3, c4, c5, c6, c7⟩ := key
   rw [run_bind] at hr
   obtain ⟨R, σ2, rest, bb1, bb2, hr, d1, d2, d3, d4, d5, d5', d5'', d6⟩ := Ml (mem0 := σf.mem) hr (hbk.same hsame.1 hsame.2.1 fun k hk => (hsame.2.2 k (hkq k hk)).2) c6 hkn (fun _ _ => rfl)
   have hown' : ∀ b ∈ own, b ∈ Hand.bs (mh ys us bss) ∨ ∃ z ∈ R, b ∈ gf.bl z.k := fun b hb => by
    rcases hmem' b hb with h6 | ⟨k, hk, h6⟩
    ·exact .inl h6
    ·rw [← d1] at hk
     obtain ⟨z, hz, hzk⟩ := List.mem_map.1 hk
     refine .inr ⟨z, hz, ?_⟩
     rw [hzk, (hsame.2.2 k (hkq k (by rw [← d1]; exact hk))).1]
     exact h6
   cases hp : T8 (cr.e r').1 with
   | none =>
    have e1 : resBk (cr.e r').1 v = [] := by simp [resBk, hp]
    rw [e1] at d5''
    have c5 : Uz w' S'' (cr.e r').1 v bs := by unfold ResP at c5; rw [hp] at c5; exact c5
    obtain ⟨rfl, rfl⟩ : rest = [] ∧ bb2 = [] := by
     cases rest with
     | nil => cases bb2 with
      | nil => exact ⟨rfl, rfl⟩
      | cons _ _ => exact d5''.elim
     | cons _ _ => exact d5''.elim
    rw [List.append_nil] at d5'
    subst d5'
    obtain ⟨H0, q1, q2, q3⟩ := Xv0 c5
    simp only [Xg9, hp] at hr
    obtain ⟨g2, _, h2, m2⟩ := hf.callBk (w' := w') (σ' := σ2) (H' := H0) (S' := S'') (R := R) d2 d3 (by rw [d1]; exact hkn) d4 (rows := (bks).flatMap Bk.rows) d6 (own := own)
     hown' hfrm hsz hio c1 c2 c3 (by rw [q2, d5]; exact p2) (by rw [q2, d5]; exact p7) (by rw [q2, d5]; exact c4) q3
    obtain ⟨z, g3, σ3, hz, h3, m3, ha⟩ := Xk0 h2 q1 hr
    simp only [Option.some.injEq, Prod.mk.injEq] at hz
    obtain ⟨rfl, rfl⟩ := hz
    exact ⟨g3, h3, ha, ((m1.trans mf).trans m2).trans m3, hfr⟩
   | some kn =>
    obtain ⟨k0, n⟩ := kn
    obtain ⟨⟨b, o, rfl⟩, rfl⟩ : (∃ b o, v = .pointer (some ⟨b, o, none⟩)) ∧ bs = [] := by unfold ResP at c5; rw [hp] at c5; exact c5
    have e1 : resBk (cr.e r').1 (.pointer (some ⟨b, o, none⟩)) = [.row b o n] := by simp [resBk, hp]
    rw [e1] at d5'' p8 c7
    simp only [Xg9, hp] at hr
    match rest, bb2, d5'', hr with
    | [zs], [b2], ⟨⟨vs, cs, l1, hcs, hb2, hcell⟩, _⟩, hr =>
     simp only [run_bind] at hr
     obtain ⟨hl, hr⟩ := An hr
     simp only [Bool.and_eq_true] at hl
     have hzn : zs.length = n := Nat.eq_of_beq_eq_true hl.1.1
     have hn1 := Nat.le_of_ble_eq_true hl.1.2
     simp only [List.nil_append] at p2 p7 c4
     rw [d5'] at p2 p7 c4
     simp only [List.flatten_append] at p2 p7 c4
     obtain ⟨g2, ⟨gS, gad, gbl⟩, h2, m2⟩ := hf.callBk (w' := w') (σ' := σ2) (H' := []) (S' := S'') (R := R) d2 d3 (by rw [d1]; exact hkn) d4 (rows := (bks).flatMap Bk.rows) d6 (own := own)
      hown' hfrm hsz hio c1 c2 c3 (by simp only [Hand.bs, List.flatMap_nil, List.nil_append, d5]; exact (List.nodup_append.1 p2).1)
      (fun q hq => p7 q (by simp only [Hand.bs, List.flatMap_nil, List.nil_append, d5] at hq; exact List.mem_append_left _ hq))
      (fun q hq => c4 q (by simp only [Hand.bs, List.flatMap_nil, List.nil_append, d5] at hq; exact List.mem_append_left _ hq)) (fun x hx => by cases hx)
     have hrows : ∀ j, j < n → (b, o + j) ∈ (List.flatMap Bk.rows [.row b o n]) := fun j hj => by
      have : ∀ (n o j : Nat), j < n → (b, o + j) ∈ Ft b o n := by
       intro n
       induction n with
       | zero => intro o j hj; omega
       | succ n ih =>
        intro o j hj
        simp only [Ft, List.mem_cons]
        cases j with
        | zero => exact .inl rfl
        | succ j => exact .inr (by have := ih (o + 1) j (by omega); rwa [show o + 1 + j = o + (j + 1) by omega] at this)
      simpa [Bk.rows] using this n o j hj
     obtain ⟨f1, f2, f3, _⟩ := p8 _ (hrows 0 (by omega))
     have f4 := (p8 _ (hrows (n - 1) (by omega))).2.2.2
     simp only at f1 f3
     have hfb : ∀ k', b ∉ g2.bl k' := fun k' hk' => by
      rw [gbl] at hk'
      unfold blR at hk'
      split at hk'
      ·rename_i z hz
       refine f3 ?_
       rw [d5', List.nil_append, List.flatten_append]
       refine List.mem_append_left _ ?_
       rw [← d5]
       exact List.mem_flatMap.2 ⟨z, (Bm hz).1, hk'⟩
      ·have := hf.bllt k' b hk'; omega
     obtain ⟨g3, σ3, hr, h3, st3, eb, eS, ead, enew⟩ := Lr (k := G3 * d) (b := b) (o := o) h2 (Xo0 gS hcs hl.2) (fun j u hu => hcell j u hu)
      (by rw [l1]; simp only at f4; rwa [show o + (n - 1) + 1 = o + n by omega] at f4)
      ⟨hfb, by simp [Hand.bs], by rw [gS]; exact c7 _ (hrows 0 (by omega))⟩
      (fun k' o' ha => by
       rw [gad] at ha
       have := hf.adlt ha; omega) hr
     simp only [Db, Pg.run, Option.some.injEq, Prod.mk.injEq] at hr
     obtain ⟨rfl, rfl⟩ := hr
     refine ⟨g3, h3, ⟨rfl, b, o, rfl, fun j hj => enew j (by omega)⟩, (m1.trans mf).trans ⟨m2.st.trans st3, fun q hq => m2.own q ?_, fun q hq => m2.S q (by rw [← eS]; exact hq), fun q a ha => ?_, m2.sz, m2.io⟩, hfr⟩
     ·rcases hq with ⟨k', hq⟩ | hq
      ·exact .inl ⟨k', by rw [← eb]; exact hq⟩
      ·exact .inr hq
     ·rcases ead q a ha with h5 | h5
      ·exact m2.ad q a h5
      ·exact .inr (by rw [h5]; exact f1)
    | [], [], h, _ => exact h.elim
    | [], _ :: _, h, _ => exact h.elim
    | _ :: _, [], h, _ => exact h.elim
    | [_], _ :: _ :: _, ⟨_, h⟩, _ => exact h.elim
    | _ :: _ :: _, [_], ⟨_, h⟩, _ => exact h.elim
    | _ :: _ :: _, _ :: _ :: _, ⟨_, h⟩, _ => exact h.elim
end
end Go.Rf
end

section
set_option linter.unusedVariables false
set_option linter.unusedSimpArgs false
namespace Go.Rf
def FnOk (P : Program) (f : Nat) : Prop := ∃ fn, P.funcs[f]? = some fn ∧ (fn.name == "runtime.NumGoroutine") = false ∧ fn.body.isNone = false
def ItMk (P : Program) (f g : Nat) : Prop := FnOk P f ∧ ∀ (w : World) (a : Option Addr) (len cap : Nat) (n : Int), 1 ≤ n → Calls P f #[.slice a len cap, .int .i64 n] w fun e w' =>
 ∃ b1 b2, e = .returned (.func (.func g) #[] #[.pointer (some ⟨b1, 0, none⟩), .pointer (some ⟨b2, 0, none⟩)]) ∧ (w.heap.size ≤ b1 ∧ b1 < w'.heap.size) ∧ (w.heap.size ≤ b2 ∧ b2 < w'.heap.size) ∧
  cellAt w' b1 0 = some (.slice a len cap) ∧ cellAt w' b2 0 = some (.int .i64 n) ∧ (∀ q, q < w.heap.size → w'.heap[q]? = w.heap[q]?) ∧ w.heap.size ≤ w'.heap.size ∧ Io w w'
def ItOk (P : Program) (f : Nat) (t : Ty) : Prop := FnOk P f ∧ ∀ (lp : Nat) (n : Int) (a : Option Addr) (len cap b1 b2 : Nat) (J : Nat → World → Prop) (W : World), (1 ≤ n ∧ n ≤ 9223372036854775807) → len ≤ 140737488355328 → len ≤ cap →
 (a = none → len = 0) → (∀ j W, J j W → cellAt W b1 0 = some (.slice a len cap) ∧ cellAt W b2 0 = some (.int .i64 n)) → (∀ j W, J j W → J j { W with drawn := W.drawn + 1 }) →
 (∀ j W, j * n.toNat < len → J j W → YieldAt Fence.wide 0 P lp #[.slice (a.map (·.add (j * n.toNat * wd t))) (min n.toNat (len - j * n.toNat)) (min n.toNat (len - j * n.toNat))] W fun e W' => e = .returned (.bool true) ∧ J (j + 1) W') →
 J 0 W → CallsIn Fence.wide 1 P f #[.func (.yield lp) #[] #[], .pointer (some ⟨b1, 0, none⟩), .pointer (some ⟨b2, 0, none⟩)] W fun e W' => (∃ v, e = .returned v) ∧ J ((len + n.toNat - 1) / n.toNat) W'
structure EnvOk (P : Program) (E : Env) : Prop where
 ty : ∀ t i, E.ty t = some i → TyOk P t i
 fld : ∀ s f z, E.fld s f = some z → FldOk P s f z.1 z.2.1 z.2.2
 bld : ∀ t i, E.ty t = some i → i.agg = true → BldOk P t (E.fld t)
 eq : ∀ t i, E.eqt t = true → E.ty t = some i → EqOk P t i.ty
 tab : TabOk P E.tab
 fn : ∀ f as cr, E.tab f as = some cr → FnOk P f
 itr : ∀ z ∈ E.itr, ItMk P z.1 z.2.1 ∧ ItOk P z.2.1 z.2.2
theorem V5 : ∀ {l : List (Nat × Nat × Ty)} {f g : Nat} {t : Ty}, Xg1 l f = some (g, t) → (f, g, t) ∈ l
 | (a, b, c) :: r, f, g, t, h => by
  simp only [Xg1] at h
  cases hb : Nat.beq a f with
  | true =>
   rw [hb] at h
   simp only [cond_true, Option.some.injEq, Prod.mk.injEq] at h
   rw [Nat.eq_of_beq_eq_true hb, h.1, h.2]
   exact List.mem_cons_self
  | false => rw [hb] at h; exact List.mem_cons_of_mem _ (V5 h)
theorem Vi : ∀ {l : List (Nat × Nat × Ty)} {g : Nat} {t : Ty}, Xbv l g = some t → ∃ f, (f, g, t) ∈ l
 | (a, b, c) :: r, g, t, h => by
  simp only [Xbv] at h
  cases hb : Nat.beq b g with
  | true =>
   rw [hb] at h
   simp only [cond_true, Option.some.injEq] at h
   rw [Nat.eq_of_beq_eq_true hb, h]
   exact ⟨a, List.mem_cons_self⟩
  | false => rw [hb] at h; obtain ⟨f, hf⟩ := Vi h; exact ⟨f, List.mem_cons_of_mem _ hf⟩
section
variable {P : Program} {w : World} {g : Gh} {σ : St} {tab : Tab} {γ : Type} {r : γ} {H : Hand} {a : Act}
theorem Rq (h : Rel w g σ a.tmps H) : ∀ {l : List Operand} {K : List A → St → Option γ}, (Pg.mapL Mc l).run tab σ K = some r →
  ∃ xs, K xs σ = some r ∧ ArgsR w g σ.mem xs (l.map a.eval)
 | [], K, hr => ⟨[], hr, trivial⟩
 | x :: l, K, hr => by
  simp only [Pg.mapL, run_bind] at hr
  obtain ⟨v, hr, h1⟩ := A9 h hr
  obtain ⟨xs, hr, h2⟩ := Rq h hr
  exact ⟨v :: xs, hr, h1, h2⟩
theorem Tn (h : Rel w g σ a.tmps H) {ps : Array (Nat × Operand)} {K : List (Nat × A) → St → Option γ} (hr : (Zc ps).run tab σ K = some r) :
  ∃ xs, K xs σ = some r ∧ PartsR w g σ.mem xs (ps.map fun (i, x) => (i, a.eval x)).toList := by
 unfold Zc at hr
 rw [Array.toList_map]
 generalize ps.toList = l at hr ⊢
 clear ps
 induction l generalizing K with
 | nil => exact ⟨[], hr, trivial⟩
 | cons p l ih =>
  obtain ⟨i, x⟩ := p
  simp only [Pg.mapL, run_bind] at hr
  obtain ⟨v, hr, h1⟩ := A9 h hr
  simp only [Pg.run] at hr
  obtain ⟨xs, hr, h2⟩ := ih hr
  exact ⟨_, hr, ⟨rfl, h1⟩, h2⟩
theorem Rs (h : Rel w g σ a.tmps H) {x : Option Operand} {K : Option A → St → Option γ} (hr : (Xqm x).run tab σ K = some r) :
  ∃ y, K y σ = some r ∧ Xo1 w g σ.mem y (x.map a.eval) := by
 cases x with
 | none => exact ⟨none, hr, trivial⟩
 | some x =>
  simp only [Xqm, run_bind] at hr
  obtain ⟨v, hr, h1⟩ := A9 h hr
  exact ⟨_, hr, h1⟩
theorem Hb {f : Nat} (hf : FnOk P f) (args : Array Value) : (callFunc f args).run P w = .ok (.enter f args) w := by
 obtain ⟨fn, h1, h2, h3⟩ := hf
 have h2' : ¬ fn.name = "runtime.NumGoroutine" := by simpa using h2
 have h3' : ¬ fn.body = none := by cases hb : fn.body <;> simp_all
 simp [callFunc, h1, h2', h3']
theorem Cl {α : Type} {x y : α} {s t : St} (h : (fun (a : α) s => some (a, s)) x s = some (y, t)) : x = y ∧ s = t := by
 simpa using h
theorem Xpn {E : Env} {d f : Nat} {xs : List A} (hE : EnvOk P E) {z : γ} {K : A → St → Option γ} (hr : (Xaf E d f xs).run E.tab σ K = some z) : FnOk P f := by
 simp only [Xaf, run_bind] at hr
 obtain ⟨_, σ0, _, hr⟩ := Dh hr
 obtain ⟨ys, σ1, _, hr⟩ := Dh hr
 obtain ⟨⟨as, qs⟩, σ2, _, hr⟩ := Dh hr
 obtain ⟨_, σ3, _, hr⟩ := Dh hr
 simp only [Pg.run] at hr
 cases hc : E.tab f as with
 | none => rw [hc] at hr; simp at hr
 | some cr => exact hE.fn f as cr hc
theorem Rel.setB (h : Rel w g σ a.tmps H) {t : Nat} {c : Bool} (ht : σ.tmp t = .one (.v (.bool c))) : Rel w g (σ.setT t (.one (.v (.bool c)))) a.tmps H := by
 have h1 := h.setT (t := t) (x := .one (.v (.bool c))) (y := .bool c) ⟨rfl, rfl⟩
 have hv : a.tmps.getD t undef = .bool c := by
  have := h.tmps t
  rw [ht] at this
  exact this.1
 have : a.tmps.setIfInBounds t (.bool c) = a.tmps := by
  apply Array.ext_getElem?
  intro i
  rw [Array.getElem?_setIfInBounds]
  split
  ·rename_i hi
   subst hi
   split
   ·rename_i hlt
    simp only [Array.getD, hlt, dif_pos] at hv
    rw [Array.getElem?_eq_getElem hlt]
    exact congrArg some hv.symm
   ·rename_i hlt
    rw [Array.getElem?_eq_none (by omega)]
  ·rfl
 rw [this] at h1
 exact h1
theorem Mv.setT (w : World) (g : Gh) (σ : St) (H : Hand) (t : Nat) (x : A) : Mv w g σ H w g (σ.setT t x) H :=
 ⟨Step.refl _ _ _, fun _ h => .inl h, fun _ h => .inl h, fun _ _ h => .inl h, Nat.le_refl _, Io.refl _⟩
theorem Xw2 {α : Type} (h : Rel w g σ a.tmps []) {c : Operand} {p q : Pg α} {K : α → St → Option γ} (hr : (byB c p q).run tab σ K = some r) :
  ∃ b σ1, a.eval c = .bool b ∧ Rel w g σ1 a.tmps [] ∧ Mv w g σ [] w g σ1 [] ∧ (cond b p q).run tab σ1 K = some r := by
 cases c with
 | tmp t =>
  simp only [byB, Pg.run] at hr
  split at hr
  ·rename_i b hb
   have hv : a.eval (.tmp t) = .bool b := by
    have := h.tmps t
    rw [hb] at this
    exact this.1
   cases b with
   | true => exact ⟨true, _, hv, h.setB hb, Mv.setT _ _ _ _ _ _, hr⟩
   | false => exact ⟨false, _, hv, h.setB hb, Mv.setT _ _ _ _ _ _, hr⟩
  ·simp [Pg.run] at hr
  ·simp at hr
 | const v =>
  cases v with
  | bool b =>
   simp only [byB] at hr
   exact ⟨b, σ, rfl, h, Mv.refl _ _ _ _, hr⟩
  | _ => simp [byB, Pg.run] at hr
 | _ => simp [byB, Pg.run] at hr
theorem ArgsR.append {mem : Mem} : ∀ {xs ys : List A} {us vs : List Value}, ArgsR w g mem xs us → ArgsR w g mem ys vs → ArgsR w g mem (xs ++ ys) (us ++ vs)
 | [], _, [], _, _, h => h
 | _ :: _, _, _ :: _, _, ⟨h1, h2⟩, h => ⟨h1, h2.append h⟩
 | [], _, _ :: _, _, h, _ => h.elim
 | _ :: _, _, [], _, h, _ => h.elim
theorem Vw {mem : Mem} : ∀ {cs : List (Loc × Nat × Nat)} {ys : List Value}, ys.length = cs.length →
  (∀ (i : Nat) (p : Loc) (n v0 : Nat) (z : Value), cs[i]? = some (p, n, v0) → ys[i]? = some z → POk g mem p n v0 z) → ArgsR w g mem (Xfz cs) ys
 | [], [], _, _ => trivial
 | (p, n, v0) :: cs, y :: ys, hl, h => ⟨⟨rfl, h 0 p n v0 y rfl rfl⟩, Vw (by simpa using hl) fun i p n v0 z h1 h2 => h (i + 1) p n v0 z (by simpa using h1) (by simpa using h2)⟩
 | [], _ :: _, hl, _ => by simp at hl
 | _ :: _, [], hl, _ => by simp at hl
theorem Mv.drop0 {w w' : World} {g g' : Gh} {σ σ' : St} {H H' : Hand} {x : Leaf} {y : Value} (m : Mv w g σ H w' g' σ' ((x, y, []) :: H')) : Mv w g σ H w' g' σ' H' :=
 ⟨m.st, fun b hb => m.own b (by unfold Own at *; rw [Hand.bs_cons]; simpa using hb), m.S, m.ad, m.sz, m.io⟩
theorem LfV.lfR {w : World} {g : Gh} {mem : Mem} {x : Leaf} {y : Value} {bs : List Nat} (h : LfV w g.S x y bs) : LfR w g mem x y bs := by
 cases x with
 | v z => exact h
 | s m t l => exact h
 | _ => exact h.elim
theorem Xkt {E : Env} {ts : Array Value} (hE : ∀ t i, E.ty t = some i → TyOk P t i) (h : Rel w g σ ts []) {t d : Nat} {x : A} {y : Value} (hx : AR w g σ.mem x y)
  {K : A → St → Option γ} (hr : (Xtq E t d x).run tab σ K = some r) :
  ∃ v z g' σ', K v σ' = some r ∧ (Instr.loadAt t y).run P w = .ok z w ∧ Rel w g' σ' ts [] ∧ AR w g' σ'.mem v z ∧ Mv w g σ [] w g' σ' [] := by
 unfold Xtq at hr
 split at hr
 ·rename_i ty eb k e n v0 hty
  simp only [run_bind] at hr
  obtain ⟨x, hx1, hr1⟩ := A2 hr
  obtain ⟨hv, hr2⟩ := An hr1
  clear hr hr1
  simp only [Bool.and_eq_true] at hv
  have hv0 : v0 = x.v0 := Nat.eq_of_beq_eq_true hv.1
  have hn : n = wd ty := Nat.eq_of_beq_eq_true hv.2
  obtain ⟨_, hp⟩ := (hx : LfR w g σ.mem (.ptr (.elem k e 0) n v0) y [])
  obtain ⟨_, x2, hx2, _, hc⟩ := hp
  rw [hx1] at hx2; cases hx2
  obtain ⟨t', q', a, len, cap, r1, r2, r3, r4, r5⟩ := hc hv0
  obtain ⟨ec, ev0, ev1⟩ := x
  split at hr2
  ·rename_i u l p hcc
   simp only at hcc
   subst hcc
   simp only [lstOf, Option.some.injEq, Prod.mk.injEq] at r1
   obtain ⟨rfl, rfl⟩ := r1
   simp only [run_bind] at hr2
   obtain ⟨hu, hr3⟩ := An hr2
   obtain ⟨hpe, hr4⟩ := Cm hr3
   clear hr2 hr3
   have hu : u = ty := of_decide_eq_true hu
   subst hu
   have hpe : (e : Int) = p := of_decide_eq_true hpe
   simp only [Pg.run] at hr4
   obtain ⟨b, o, cap', hhv⟩ := q_hv h hx1 r2
   rw [hhv] at r4
   simp only [Value.slice.injEq, Option.some.injEq, Addr.mk.injEq, and_true] at r4
   obtain ⟨⟨hb, ho⟩, _, _⟩ := r4
   obtain ⟨vs, bss, g1, l1, l2, hcell, h1, m1⟩ := h.takeQ hx1 r2 hpe hhv
   rw [run_bind] at hr4
   obtain ⟨zs, g2, σ2, hk, h2, m2, hls, l3⟩ := Ck (H := []) h1 (by rw [A8, l1]) (by rw [l2, l1]) hr4
   simp only [Pg.run] at hk
   refine ⟨_, .agg vs.toArray, g2, σ2, hk, ?_, h2, ⟨vs, rfl, hls⟩, ?_⟩
   ·have hT := hE t _ hty
    obtain ⟨f, hf, hsz, _⟩ := hT.info
    obtain ⟨dd, hd, hag⟩ := hT.agg
    simp only at hsz hag
    rw [Nat.add_zero] at r5
    rw [r5, ← hb, ← ho]
    generalize o + e * wd u = oo at hcell ⊢
    have hload : (Instr.loadAt t (.pointer (some ⟨b, oo, none⟩))).run P w = (loadVar t ⟨b, oo, none⟩).run P w := by simp [Instr.loadAt, Instr.sureAddr]
    have hcells : ∀ j v, vs[j]? = some v → w.cell? ((⟨b, oo, none⟩ : Addr).add j) = some v := fun j v hv => by
     have hj : j < wd u := by rw [← l1]; exact (List.getElem?_eq_some_iff.1 hv).1
     rw [Bh]
     have := hcell j hj
     rw [hv] at this
     exact this
    have hlc := run_loadCells_list (P := P) w ⟨b, oo, none⟩ vs hcells
    rw [hload]
    simp [loadVar, Dq hd, hag, Bn hf, hsz, ← l1, hlc]
   ·have := m1.trans m2
    simpa using this
  ·simp [Pg.run] at hr2
 ·simp [Pg.run] at hr
theorem Ua {H : Hand} {ts : Array Value} (h : Rel w g σ ts H) {x : Leaf} {y : Value} (hx : LfR w g σ.mem x y [])
  {K : Leaf → St → Option γ} (hr : (Wo x).run tab σ K = some r) :
  ∃ x' g' σ', K x' σ' = some r ∧ Rel w g' σ' ts H ∧ Mv w g σ H w g' σ' H ∧ LfR w g' σ'.mem x' y [] := by
 unfold Wo at hr
 split at hr
 ·obtain ⟨x', bs, g', σ', h1, h2, h3, rfl⟩ := Mp h hx.2 hr
  exact ⟨x', g', σ', h1, h2.drop, h3.drop0, LfV.lfR (h2.hand _ List.mem_cons_self)⟩
 ·exact ⟨_, g, σ, hr, h, Mv.refl _ _ _ _, hx⟩
theorem Qv {H : Hand} {ts : Array Value} : ∀ {xs : List Leaf} {ys : List Value} {g : Gh} {σ : St} (h : Rel w g σ ts H) (hx : LsR w g σ.mem xs ys)
  {K : List Leaf → St → Option γ} (hr : (Q7 xs).run tab σ K = some r),
  ∃ xs' g' σ', K xs' σ' = some r ∧ Rel w g' σ' ts H ∧ Mv w g σ H w g' σ' H ∧ LsR w g' σ'.mem xs' ys
 | [], ys, g, σ, h, hx, K, hr => ⟨[], g, σ, hr, h, Mv.refl _ _ _ _, hx⟩
 | x :: xs, [], g, σ, h, hx, K, hr => by have := hx.1; simp at this
 | x :: xs, y :: ys, g, σ, h, hx, K, hr => by
  simp only [Q7, run_bind] at hr
  obtain ⟨hx1, hx2⟩ := hx.tail
  obtain ⟨x', g1, σ1, hr, h1, m1, k1⟩ := Ua h hx1 hr
  obtain ⟨xs', g2, σ2, hr, h2, m2, k2⟩ := Qv h1 (⟨hx2.1, fun i a z e1 e2 => (hx2.2 i a z e1 e2).step m1.st fun _ _ => rfl⟩ : LsR w g1 σ1.mem xs ys) hr
  refine ⟨x' :: xs', g2, σ2, hr, h2, m1.trans m2, by simp [k2.1], fun i a z e1 e2 => ?_⟩
  cases i with
  | zero =>
   simp only [List.getElem?_cons_zero, Option.some.injEq] at e1 e2
   subst e1; subst e2
   exact k1.step m2.st fun _ _ => rfl
  | succ i => exact k2.2 i a z (by simpa using e1) (by simpa using e2)
theorem Xf9 {H : Hand} {ts : Array Value} (h : Rel w g σ ts H) {x : A} {y : Value} (hx : AR w g σ.mem x y)
  {K : A → St → Option γ} (hr : (Y4 x).run tab σ K = some r) :
  ∃ x' g' σ', K x' σ' = some r ∧ Rel w g' σ' ts H ∧ Mv w g σ H w g' σ' H ∧ AR w g' σ'.mem x' y := by
 cases x with
 | one x =>
  simp only [Y4, run_bind] at hr
  obtain ⟨x', g1, σ1, hr, h1, m1, k1⟩ := Ua h hx hr
  exact ⟨.one x', g1, σ1, hr, h1, m1, k1⟩
 | agg xs =>
  simp only [Y4, run_bind] at hr
  obtain ⟨us, rfl, hx⟩ := hx
  obtain ⟨xs', g1, σ1, hr, h1, m1, k1⟩ := Qv h hx hr
  exact ⟨.agg xs', g1, σ1, hr, h1, m1, us, rfl, k1⟩
 | tup zs => exact ⟨.tup zs, g, σ, hr, h, Mv.refl _ _ _ _, hx⟩
theorem Xjc {E : Env} (hE : EnvOk P E) (h : Rel w g σ a.tmps []) {o : Oper} {d : Nat} {x : A} {σ' : St} (hr : (Df E d o.op).run E.tab σ (fun a s => some (a, s)) = some (x, σ')) :
  Out P w g σ a.tmps x σ' ((execOp a.eval o).run P w) := by
 unfold execOp
 have hpure : ∀ {z : A} {q : Value} {m : Sem Value}, (fun (a : A) (s : St) => some (a, s)) z σ = some (x, σ') → m.run P w = .ok q w → AR w g σ.mem z q →
   Out P w g σ a.tmps x σ' ((do pure (.value (← m)) : Sem Next).run P w) := by
  intro z q m hk hm hz
  obtain ⟨rfl, rfl⟩ := Cl hk
  simp only [Sem.run_bind, hm, Result.andThen]
  exact Out.same h hz
 have hfull : ∀ {z : A} {q : Value} {m : Sem Value} {w' : World} {g' : Gh} {s : St}, (fun (a : A) (s : St) => some (a, s)) z s = some (x, σ') → m.run P w = .ok q w' → Rel w' g' s a.tmps [] →
   AR w' g' s.mem z q → Mv w g σ [] w' g' s [] → Frm w g w' → Out P w g σ a.tmps x σ' ((do pure (.value (← m)) : Sem Next).run P w) := by
  intro z q m w' g' s hk hm h1 h2 h3 h4
  obtain ⟨rfl, rfl⟩ := Cl hk
  simp only [Sem.run_bind, hm, Result.andThen]
  exact ⟨g', h1, h2, h3, h4⟩
 cases D5 : o.op with
 | move y =>
  rw [D5] at hr
  simp only [Df] at hr ⊢
  obtain ⟨v, hk, hv⟩ := A9 h hr
  obtain ⟨rfl, rfl⟩ := Cl hk
  exact Out.same h hv
 | assign y =>
  rw [D5] at hr
  simp only [Df] at hr ⊢
  obtain ⟨v, hk, hv⟩ := A9 h hr
  obtain ⟨rfl, rfl⟩ := Cl hk
  exact Out.same h hv
 | alloc t =>
  rw [D5] at hr
  simp only [Df] at hr ⊢
  obtain ⟨z, v, w', g', s, hk, hrun, h1, h2, h3, h4⟩ := Xd4 hE.ty h hr
  exact hfull hk hrun h1 h2 h3 h4
 | box t y =>
  rw [D5] at hr
  simp only [Df, run_bind] at hr ⊢
  obtain ⟨v, hr, hv⟩ := A9 h hr
  obtain ⟨z, q, w', g', s, hk, hrun, h1, h2, h3, h4⟩ := Xrd (P := P) h hv hr
  exact hfull hk hrun h1 h2 h3 h4
 | build t ps =>
  rw [D5] at hr
  simp only [Df, run_bind] at hr ⊢
  obtain ⟨xs, hr, hxs⟩ := Tn h hr
  obtain ⟨z, q, hk, hrun, hz⟩ := Xf7 hE.ty hE.bld hxs hr
  exact hpure hk hrun hz
 | buildSlice t n ps =>
  rw [D5] at hr
  simp only [Df, run_bind] at hr ⊢
  obtain ⟨xs, hr, hxs⟩ := Tn h hr
  cases hfz : B6 E.frz d with
  | false =>
   rw [hfz] at hr
   simp only [cond_false, Pg.run] at hr
   obtain ⟨z, q, w', g', s, hk, hrun, h1, h2, h3, h4⟩ := H6 hE.ty h hxs hr
   exact hfull hk hrun h1 h2 h3 h4
  | true =>
   rw [hfz] at hr
   simp only [cond_true] at hr
   obtain ⟨g0, σ0, hr, h0, m0, _⟩ := Ja h hr
   obtain ⟨z, q, w', g', s, hk, hrun, h1, h2, h3, h4⟩ := H6 hE.ty h0 (hxs.step m0.st fun _ _ => rfl) hr
   exact hfull hk hrun h1 h2 (m0.trans h3) ((Frm.refl w g).trans h4 m0)
 | load t y =>
  rw [D5] at hr
  simp only [Df, run_bind] at hr ⊢
  obtain ⟨v, hr, hv⟩ := A9 h hr
  cases hmv : B6 E.frz (d + 1000000) with
  | true =>
   rw [hmv, cond_true] at hr
   obtain ⟨z, q, g1, σ1, hk, hrun, h1, hz1, m1⟩ := Xkt hE.ty h hv hr
   exact hfull hk hrun h1 hz1 m1 (Frm.refl w g)
  | false =>
  rw [hmv, cond_false, run_bind] at hr
  obtain ⟨z, q, hk, hz, hrun⟩ := U8 hE.ty h hv hr
  cases hfz : B6 E.frz d with
  | false =>
   rw [hfz] at hk
   exact hpure hk hrun hz
  | true =>
   rw [hfz] at hk
   obtain ⟨z', g1, σ1, hk, h1, m1, hz1⟩ := Xf9 h hz hk
   exact hfull hk hrun h1 hz1 m1 (Frm.refl w g)
 | store t y z =>
  rw [D5] at hr
  simp only [Df, run_bind] at hr ⊢
  obtain ⟨v, hr, hv⟩ := A9 h hr
  obtain ⟨u, hr, hu⟩ := A9 h hr
  obtain ⟨w', g', s, hk, hrun, h1, h2, h3⟩ := Xgs hE.ty h hv hu hr
  obtain ⟨rfl, rfl⟩ := Cl hk
  simp only [Sem.run_bind, hrun, Result.andThen]
  exact ⟨g', h1, ⟨rfl, rfl⟩, h2, h3⟩
 | nilCheck y =>
  rw [D5] at hr
  simp only [Df, run_bind] at hr ⊢
  obtain ⟨v, hr, hv⟩ := A9 h hr
  split at hr
  ·rename_i p n v0
   obtain ⟨rfl, rfl⟩ := Cl hr
   have hv' : LfR w g σ.mem (.ptr p n v0) (a.eval y) [] := hv
   have : ∃ a', a.eval y = .pointer (some a') := by
    cases p with
    | cell k => obtain ⟨_, b, o', he, _⟩ := hv'; exact ⟨_, he⟩
    | elem k e c => obtain ⟨_, he, _⟩ := hv'; exact he
   obtain ⟨a', he⟩ := this
   rw [he] at hv ⊢
   exact Out.same h hv
  ·rename_i f cs
   obtain ⟨rfl, rfl⟩ := Cl hr
   have hv' : LfR w g σ.mem (.fn f cs) (a.eval y) [] := hv
   obtain ⟨_, ys, he, _⟩ := hv'
   rw [he] at hv ⊢
   exact Out.same h hv
  ·simp [Pg.run] at hr
 | binOp op t y z t' =>
  rw [D5] at hr
  simp only [Df, run_bind] at hr ⊢
  obtain ⟨v, hr, hv⟩ := A9 h hr
  obtain ⟨u, hr, hu⟩ := A9 h hr
  obtain ⟨q, v', hk, hrun, hz⟩ := Xta hE.ty hE.eq hv hu y z hr
  exact hpure hk hrun hz
 | unOp op t y =>
  rw [D5] at hr
  simp only [Df, run_bind] at hr ⊢
  obtain ⟨v, hr, hv⟩ := A9 h hr
  obtain ⟨q, v', hk, hrun, hz⟩ := Xyy hv hr
  exact hpure hk hrun hz
 | index t y i =>
  rw [D5] at hr
  simp only [Df, run_bind] at hr ⊢
  obtain ⟨v, hr, hv⟩ := A9 h hr
  obtain ⟨u, hr, hu⟩ := A9 h hr
  obtain ⟨q, v', hk, hrun, hz⟩ := Xec hE.ty hv hu hr
  exact hpure hk hrun hz
 | convert s t y =>
  rw [D5] at hr
  simp only [Df, run_bind] at hr ⊢
  obtain ⟨v, hr, hv⟩ := A9 h hr
  cases hb8 : Xxy E s t with
  | true =>
   rw [hb8, cond_true] at hr
   obtain ⟨z, q, w', g', hk, hrun, h1, h2, h3, h4⟩ := Xfx hE.ty h hv hb8 hr
   exact hfull hk hrun h1 h2 h3 h4
  | false =>
  rw [hb8, cond_false] at hr
  obtain ⟨q, v', hk, hrun, hz⟩ := Xk5 hE.ty h hv hr
  exact hpure hk hrun hz
 | makeSlice t n c =>
  rw [D5] at hr
  simp only [Df, run_bind] at hr ⊢
  obtain ⟨v, hr, hv⟩ := A9 h hr
  obtain ⟨u, hr, hu⟩ := A9 h hr
  obtain ⟨z, q, w', g', s, hk, hrun, h1, h2, h3, h4⟩ := Xj9 hE.ty h hv hu hr
  exact hfull hk hrun h1 h2 h3 h4
 | slice t y lo hi mx =>
  rw [D5] at hr
  simp only [Df, run_bind] at hr ⊢
  obtain ⟨v, hr, hv⟩ := A9 h hr
  obtain ⟨lo', hr, hlo⟩ := Rs h hr
  obtain ⟨hi', hr, hhi⟩ := Rs h hr
  obtain ⟨mx', hr, hmx⟩ := Rs h hr
  obtain ⟨q, v', hk, hrun, hz⟩ := Xd3 hE.ty h hv hlo hhi hmx hr
  exact hpure hk hrun hz
 | fieldAddr s y f =>
  rw [D5] at hr
  simp only [Df, run_bind] at hr ⊢
  obtain ⟨v, hr, hv⟩ := A9 h hr
  obtain ⟨q, v', hk, hrun, hz⟩ := S6 hE.fld hv hr
  exact hpure hk hrun hz
 | field s y f =>
  rw [D5] at hr
  simp only [Df, run_bind] at hr ⊢
  obtain ⟨v, hr, hv⟩ := A9 h hr
  obtain ⟨q, v', hk, hrun, hz⟩ := Xgj hE.fld hv hr
  exact hpure hk hrun hz
 | indexAddr t y i =>
  rw [D5] at hr
  simp only [Df, run_bind] at hr ⊢
  obtain ⟨v, hr, hv⟩ := A9 h hr
  obtain ⟨u, hr, hu⟩ := A9 h hr
  obtain ⟨z, q, g', s, hk, hrun, h1, h2, h3⟩ := Up hE.ty h hv hu hr
  exact hfull hk hrun h1 h2 h3 (Frm.refl _ _)
 | extract y i =>
  rw [D5] at hr
  simp only [Df, run_bind] at hr ⊢
  obtain ⟨v, hr, hv⟩ := A9 h hr
  obtain ⟨q, v', hk, hrun, hz⟩ := W7 hv hr
  exact hpure hk hrun hz
 | pick c y z =>
  rw [D5] at hr
  simp only [Df] at hr ⊢
  obtain ⟨b, σ1, hb, h1, m1, hr⟩ := Xw2 h hr
  cases b with
  | true =>
   obtain ⟨v, hk, hv⟩ := A9 h1 hr
   obtain ⟨rfl, rfl⟩ := Cl hk
   simp only [hb, asBool, Sem.run_bind, Sem.run_pure, Result.andThen, if_true]
   exact ⟨g, h1, hv, m1, Frm.refl _ _⟩
  | false =>
   obtain ⟨v, hk, hv⟩ := A9 h1 hr
   obtain ⟨rfl, rfl⟩ := Cl hk
   simp only [hb, asBool, Sem.run_bind, Sem.run_pure, Result.andThen, Bool.false_eq_true, if_false]
   exact ⟨g, h1, hv, m1, Frm.refl _ _⟩
 | makeFunc fn first caps =>
  rw [D5] at hr
  simp only [Df] at hr ⊢
  cases he : first.isEmpty with
  | false => rw [he] at hr; simp [Pg.run] at hr
  | true =>
   rw [he] at hr
   simp only [cond_true, run_bind] at hr
   obtain ⟨xs, hr, hxs⟩ := Rq h hr
   cases fn with
   | func f =>
    obtain ⟨z, hk, hz⟩ := Ux hxs hr
    have hf : first = #[] := by simpa using he
    subst hf
    refine hpure hk ?_ hz
    simp [Instr.makeFunc]
    apply Array.toList_inj.1; simp
   | _ => simp [Ky, Pg.run] at hr
 | call c =>
  rw [D5] at hr
  simp only [Df, run_bind] at hr ⊢
  obtain ⟨xs, hr, hxs⟩ := Rq h hr
  have hta : (c.args.map a.eval).toList = c.args.toList.map a.eval := by simp
  cases hcal : c.callee with
  | builtin b =>
   simp only [hcal] at hr
   have hgoal : Out P w g σ a.tmps x σ' ((builtin b c.argTypes o.type (c.args.map fun | .const _ => true | _ => false) (c.args.map a.eval)).run P w) := by
    unfold Xcn at hr
    split at hr
    ·rename_i t y hts
     obtain ⟨u, hu, hlen⟩ : ∃ u, (c.args.map a.eval).toList = [u] ∧ AR w g σ.mem y u := by
      rw [hta]
      match c.args.toList.map a.eval, hxs with
      | [u], ⟨h1, _⟩ => exact ⟨u, rfl, h1⟩
     have e1 : c.args.map a.eval = #[u] := Array.toList_inj.1 hu
     have e2 : c.argTypes = #[t] := Array.toList_inj.1 hts
     obtain ⟨q, v', hk, hrun, hz⟩ := Xt7 hE.ty h hlen o.type hr
     rw [e1, e2]
     exact hpure hk hrun hz
    ·rename_i t y hts
     obtain ⟨u, hu, hlen⟩ : ∃ u, (c.args.map a.eval).toList = [u] ∧ AR w g σ.mem y u := by
      rw [hta]
      match c.args.toList.map a.eval, hxs with
      | [u], ⟨h1, _⟩ => exact ⟨u, rfl, h1⟩
     have e1 : c.args.map a.eval = #[u] := Array.toList_inj.1 hu
     have e2 : c.argTypes = #[t] := Array.toList_inj.1 hts
     obtain ⟨q, v', hk, hrun, hz⟩ := Xtn hE.ty hlen o.type hr
     rw [e1, e2]
     exact hpure hk hrun hz
    ·rename_i t t' kk nn hts
     obtain ⟨u, v, hu, h1, h2⟩ : ∃ u v, (c.args.map a.eval).toList = [u, v] ∧ AR w g σ.mem (.one (.v (.slice none 0 0))) u ∧ AR w g σ.mem (.one (.v (.int kk nn))) v := by
      rw [hta]
      match c.args.toList.map a.eval, hxs with
      | [u, v], ⟨h1, h2, _⟩ => exact ⟨u, v, rfl, h1, h2⟩
     have e1 : c.args.map a.eval = #[u, v] := Array.toList_inj.1 hu
     have e2 : c.argTypes = #[t, t'] := Array.toList_inj.1 hts
     obtain ⟨rfl, _⟩ := (h1 : u = _ ∧ _)
     obtain ⟨q, v', w', g', s, hk, hrun, k1, k2, k3, k4⟩ := Xbo hE.ty h h2 o.type hr
     rw [e1, e2]
     exact hfull hk hrun k1 k2 k3 k4
    ·rename_i t t' y z _ hts
     obtain ⟨u, v, hu, h1, h2⟩ : ∃ u v, (c.args.map a.eval).toList = [u, v] ∧ AR w g σ.mem y u ∧ AR w g σ.mem z v := by
      rw [hta]
      match c.args.toList.map a.eval, hxs with
      | [u, v], ⟨h1, h2, _⟩ => exact ⟨u, v, rfl, h1, h2⟩
     have e1 : c.args.map a.eval = #[u, v] := Array.toList_inj.1 hu
     have e2 : c.argTypes = #[t, t'] := Array.toList_inj.1 hts
     obtain ⟨q, v', w', g', s, hk, hrun, k1, k2, k3, k4⟩ := Xap hE.ty h h1 h2 o.type hr
     rw [e1, e2]
     exact hfull hk hrun k1 k2 k3 k4
    ·obtain ⟨q, v', hk, hrun, hz⟩ := Xt1 (P := P) (w := w) (ys := c.args.map a.eval) (by rw [hta]; exact hxs) c.argTypes o.type hr
     exact hpure hk hrun hz
    ·obtain ⟨q, v', hk, hrun, hz⟩ := Xsj (P := P) (w := w) (ys := c.args.map a.eval) (by rw [hta]; exact hxs) c.argTypes o.type hr
     exact hpure hk hrun hz
    ·simp [Pg.run] at hr
   simp only [Go.resolve, hcal, Sem.run_bind, Sem.run_pure, Result.andThen, invoke]
   exact hgoal
  | value f =>
   simp only [hcal, run_bind] at hr
   obtain ⟨v, hr, hv⟩ := A9 h hr
   split at hr
   ·rename_i f' cs
    obtain ⟨_, ys, he, hl, hp⟩ := (show LfR w g σ.mem (.fn f' cs) (a.eval f) [] from hv)
    split at hr
    ·rename_i g1 t1 Z4
     cases hcs : cs.isEmpty with
     | false => rw [hcs] at hr; simp [Pg.run] at hr
     | true =>
      rw [hcs] at hr
      simp only [cond_true] at hr
      have hcs0 : cs = [] := by simpa using hcs
      subst hcs0
      have hys : ys = [] := List.length_eq_zero_iff.1 hl
      subst hys
      have hmk := (hE.itr _ (V5 Z4)).1
      unfold Xh5 at hr
      split at hr
      ·rename_i m u l k n _
       simp only [run_bind] at hr
       obtain ⟨hc, hr2⟩ := An hr
       obtain ⟨hc2, hr3⟩ := Cm hr2
       simp only [Db, Pg.run] at hr3
       clear hr hr2
       simp only [Bool.and_eq_true, decide_eq_true_eq] at hc hc2
       obtain ⟨⟨hm, hk⟩, rfl⟩ := hc
       have hm : m = .ro := by cases m <;> first | rfl | cases hm
       subst hm
       rw [L5 hk] at hxs
       obtain ⟨y, z, hu, h1, h2⟩ : ∃ y z, c.args.toList.map a.eval = [y, z] ∧ LfR w g σ.mem (.s .ro u l) y [] ∧ LfR w g σ.mem (.v (.int .i64 n)) z [] := by
        match c.args.toList.map a.eval, hxs with
        | [y, z], ⟨h1, h2, _⟩ => exact ⟨y, z, rfl, h1, h2⟩
       obtain ⟨rfl, _⟩ := h2
       have hrd : Rd w g.S (.sl u) .ro l [y] [] := h1
       obtain ⟨ad, cp, rfl⟩ := Br hrd
       have e1 : #[] ++ c.args.map a.eval ++ ([] : List Value).toArray = #[.slice ad l.length cp, .int .i64 n] := by
        apply Array.toList_inj.1; simp [hu]
       obtain ⟨rfl, rfl⟩ := Cl hr3
       simp only [Go.resolve, hcal, he, Deferred.ofValue, Sem.run_bind, Sem.run_pure, Result.andThen, invoke, Hb hmk.1]
       rw [e1]
       show Calls P f' _ w _
       refine Calls.mono (hmk.2 w ad l.length cp n hc2.1.1) ?_
       rintro e w' ⟨b1, b2, rfl, ⟨q1, q2⟩, ⟨q3, q4⟩, q5, q6, q7, q8, q9⟩
       have hSlt : ∀ b, (g.S b ∨ b = b1 ∨ b = b2) → b < w'.heap.size := by
        rintro b (hb | rfl | rfl)
        ·have := (h.st b hb).2.2; omega
        ·exact q2
        ·exact q4
       obtain ⟨g', ⟨gS, gad, gbl⟩, h3, m3⟩ := h.callBk (w' := w') (σ' := σ) (H' := []) (S' := fun b => g.S b ∨ b = b1 ∨ b = b2) (R := []) rfl (fun k => rfl) (by simp) (by simp) (rows := []) (by simp) (own := []) (by simp)
        (fun q hq _ => .inl (q7 q hq).symm) q8 q9 (fun b hb => .inl hb) (fun b hb => by
         rcases hb with hb | rfl | rfl
         ·exact .inl hb
         ·exact .inr (.inr q1)
         ·exact .inr (.inr q3)) hSlt (by simp [Hand.bs]) (by simp [Hand.bs]) (by simp [Hand.bs]) (by simp)
       refine ⟨_, rfl, g', h3, ⟨rfl, b1, b2, _, rfl, ?_, ?_, q5, q6, ?_, hc2.1, hc2.2⟩, m3, fun q hq _ => .inl (q7 q hq).symm⟩
       ·rw [gS]; exact .inr (.inl rfl)
       ·rw [gS]; exact .inr (.inr rfl)
       ·rw [gS]
        exact hrd.imp (fun b hb => .inl hb) fun b hb => q7 b (h.st b (hb.resolve_right (by simp))).2.2
      ·simp [Pg.run] at hr
    ·have hf := Xpn hE hr
     have hargs : ArgsR w g σ.mem (xs ++ Xfz cs) (c.args.toList.map a.eval ++ ys) := hxs.append (Vw hl hp)
     have := Xjw hE.tab h hargs hr
     simp only [Go.resolve, hcal, he, Deferred.ofValue, Sem.run_bind, Sem.run_pure, Result.andThen, invoke, Hb hf]
     have e1 : (c.args.toList.map a.eval ++ ys).toArray = #[] ++ c.args.map a.eval ++ ys.toArray := by
      apply Array.toList_inj.1; simp
     rw [e1] at this
     exact this
   ·simp [Pg.run] at hr
  | _ => simp [hcal, Pg.run] at hr
 | _ => rw [D5] at hr; simp [Df, Pg.run] at hr
end
end Go.Rf
end

section
set_option linter.unusedVariables false
set_option linter.unusedSimpArgs false
namespace Go.Rf
def Pn (s : Bool) (g : Gh) (mem : Mem) (g' : Gh) (mem' : Mem) (k : Nat) : Prop :=
 ∀ e, mem k = some e → ∃ e', mem' k = some e' ∧ (∀ a, g.ad k = some a → g'.ad k = some a) ∧
  (s = true → e.v0 ≤ e'.v0 ∧ (e.v0 = e'.v0 → ∀ z, lstOf e.c = some z → g'.hv k = g.hv k ∧ lstOf e'.c = some z))
structure Mv0 (pk : List (Bool × Nat)) (w : World) (g : Gh) (mem : Mem) (w' : World) (g' : Gh) (mem' : Mem) : Prop where
 st : ∀ b, g.S b → g'.S b
 own : ∀ b, Own g' [] b → Own g [] b ∨ w.heap.size ≤ b
 S : ∀ b, g'.S b → g.S b ∨ Own g [] b ∨ w.heap.size ≤ b
 ad : ∀ k a, g'.ad k = some a → (∃ k', g.ad k' = some a) ∨ w.heap.size ≤ a.1
 sz : w.heap.size ≤ w'.heap.size
 io : Io w w'
 pin : ∀ s k, (s, k) ∈ pk → Pn s g mem g' mem' k
theorem Mv.mv0 {pk : List (Bool × Nat)} {w w' : World} {g g' : Gh} {σ σ' : St} (h : Mv w g σ [] w' g' σ' []) : Mv0 pk w g σ.mem w' g' σ'.mem :=
 ⟨h.st.S, h.own, h.S, fun k a ha => (h.ad k a ha).imp (fun h => ⟨k, h⟩) id, h.sz, h.io, fun s k _ e he => by
  obtain ⟨e', h1, h2, _, h3⟩ := h.st.key k e he
  exact ⟨e', h1, h.st.ad k, fun _ => ⟨h2, fun hv z hz => ⟨(h3 hv z hz).1, (h3 hv z hz).2.1⟩⟩⟩⟩
theorem Pn.refl (s : Bool) (g : Gh) {mem mem' : Mem} {k : Nat} (h : mem' k = mem k) : Pn s g mem g mem' k :=
 fun e he => ⟨e, h.trans he, fun _ h => h, fun _ => ⟨Nat.le_refl _, fun _ z hz => ⟨rfl, hz⟩⟩⟩
theorem Mv0.same (pk : List (Bool × Nat)) (w : World) (g : Gh) {mem mem' : Mem} (hm : ∀ k, mem' k = mem k) : Mv0 pk w g mem w g mem' :=
 ⟨fun _ h => h, fun _ h => .inl h, fun _ h => .inl h, fun k a h => .inl ⟨k, h⟩, Nat.le_refl _, Io.refl _, fun s k _ => Pn.refl s g (hm k)⟩
theorem Mv0.refl (pk : List (Bool × Nat)) (w : World) (g : Gh) (mem : Mem) : Mv0 pk w g mem w g mem := Mv0.same pk w g fun _ => rfl
theorem Mv0.trans {pk : List (Bool × Nat)} {w1 w2 w3 : World} {g1 g2 g3 : Gh} {m1 m2 m3 : Mem} (h : Mv0 pk w1 g1 m1 w2 g2 m2) (h' : Mv0 pk w2 g2 m2 w3 g3 m3) : Mv0 pk w1 g1 m1 w3 g3 m3 := by
 have hs := h.sz
 refine ⟨fun b hb => h'.st b (h.st b hb), fun b hb => ?_, fun b hb => ?_, fun k a ha => ?_, Nat.le_trans h.sz h'.sz, h.io.trans h'.io, fun s k hk e he => ?_⟩
 ·rcases h'.own b hb with h1 | h1
  ·exact h.own b h1
  ·exact .inr (by omega)
 ·rcases h'.S b hb with h1 | h1 | h1
  ·exact h.S b h1
  ·rcases h.own b h1 with h2 | h2
   ·exact .inr (.inl h2)
   ·exact .inr (.inr h2)
  ·exact .inr (.inr (by omega))
 ·rcases h'.ad k a ha with ⟨k', h1⟩ | h1
  ·exact h.ad k' a h1
  ·exact .inr (by omega)
 ·obtain ⟨e2, a1, a2, a3⟩ := h.pin s k hk e he
  obtain ⟨e3, b1, b2, b3⟩ := h'.pin s k hk e2 a1
  refine ⟨e3, b1, fun a ha => b2 a (a2 a ha), fun hst => ?_⟩
  obtain ⟨c1, c2⟩ := a3 hst
  obtain ⟨d1, d2⟩ := b3 hst
  refine ⟨Nat.le_trans c1 d1, fun hv z hz => ?_⟩
  obtain ⟨u1, u2⟩ := c2 (by omega) z hz
  obtain ⟨t1, t2⟩ := d2 (by omega) z u2
  exact ⟨t1.trans u1, t2⟩
theorem Frm.trans0 {pk : List (Bool × Nat)} {w w1 w2 : World} {g g1 : Gh} {m m1 : Mem} (h : Frm w g w1) (h' : Frm w1 g1 w2) (hm : Mv0 pk w g m w1 g1 m1) : Frm w g w2 := by
 intro b hb ho
 have h1 := h b hb ho
 have h2 := h' b (Nat.lt_of_lt_of_le hb hm.sz) (fun h3 => (hm.own b h3).elim ho (by omega))
 refine h1.trans h2 ?_
 rintro j ⟨k, hk⟩
 rcases hm.ad k _ hk with h3 | h3
 ·exact h3
 ·simp only at h3; omega
theorem Step.same {w : World} {g : Gh} {mem mem' : Mem} (hm : ∀ k, mem' k = mem k) : Step w g mem w g mem' := by
 rw [show mem' = mem from funext hm]
 exact Step.refl _ _ _
structure After (pk : List (Bool × Nat)) (w : World) (g : Gh) (mem : Mem) (ds : List Deferred) (σ' : St) (a' : Act) (w' : World) : Prop where
 ex : ∃ g', Rel w' g' σ' a'.tmps [] ∧ Mv0 pk w g mem w' g' σ'.mem ∧ Frm w g w' ∧ a'.defers = ds ∧ Step w g mem w' g' σ'.mem
theorem After.trans {pk : List (Bool × Nat)} {w w1 w2 : World} {g g1 : Gh} {mem m1 : Mem} {ds : List Deferred} {σ2 : St} {a2 : Act} (hm : Mv0 pk w g mem w1 g1 m1) (hf : Frm w g w1) (hs : Step w g mem w1 g1 m1) (h : After pk w1 g1 m1 ds σ2 a2 w2) : After pk w g mem ds σ2 a2 w2 := by
 obtain ⟨g2, h1, h2, h3, h4, h5⟩ := h.ex
 exact ⟨g2, h1, hm.trans h2, hf.trans0 h3 hm, h4, hs.trans h5⟩
section
variable {P : Program} {w : World} {g : Gh} {σ : St} {tab : Tab} {γ : Type} {r : γ} {H : Hand} {a : Act} {F : Fence} {n : Nat}
def Fw (F : Fence) : Prop := F = Fence.wide ∨ ∃ l, F = Fence.wide.inRound l
theorem Fw.fn {F : Fence} (h : Fw F) (f : Nat) : F.fn f := by
 rcases h with rfl | ⟨l, rfl⟩
 ·exact trivial
 ·exact trivial
theorem Fw.depth {F : Fence} (h : Fw F) {n : Nat} (hd : F.depth.isSome = true) : 1 ≤ n := by
 rcases h with rfl | ⟨l, rfl⟩
 ·cases hd
 ·cases hd
theorem Fw.calls {F : Fence} (h : Fw F) {n : Nat} {P : Program} {f : Nat} {args : Array Value} {w : World} {R : Ending → World → Prop} (hc : Calls P f args w R) : CallsIn F n P f args w R := by
 rcases h with rfl | ⟨l, rfl⟩
 ·exact callsIn_wide.2 hc
 ·exact (callsIn_wide (n := n).2 hc : CallsIn Fence.wide n P f args w R)
theorem G8 {o : Oper} {x : A} {v : Value} (h : Rel w g σ a.tmps []) (hx : AR w g σ.mem x v) {σ' : St} (hr : (Dl o x).run tab σ (fun a s => some (a, s)) = some ((), σ')) :
  Rel w g σ' (a.put o.dst v).tmps [] ∧ (a.put o.dst v).defers = a.defers ∧ σ'.mem = σ.mem := by
 unfold Dl at hr
 cases hd : o.dst with
 | none =>
  rw [hd] at hr
  obtain ⟨_, rfl⟩ := Cl hr
  exact ⟨h, rfl, rfl⟩
 | some d =>
  rw [hd] at hr
  simp only [Pg.run] at hr
  obtain ⟨_, rfl⟩ := Cl hr
  exact ⟨h.setT hx, rfl, rfl⟩
theorem Hh {E : Env} (hE : EnvOk P E) (hF : Fw F) {o : Oper} {d : Nat} (h : Rel w g σ a.tmps []) {σ' : St} (hr : ((Df E d o.op).bind (Dl o)).run E.tab σ (fun a s => some (a, s)) = some ((), σ'))
  {Q : Exit → Act → World → Prop} {K : Act → World → Prop} (hK : ∀ a' w', After E.pins w g σ.mem a.defers σ' a' w' → K a' w') : o.wpIn F n P a w K Q := by
 rw [run_bind] at hr
 obtain ⟨x, σ1, hv, hs⟩ := Dh hr
 have hout := Xjc hE h hv
 unfold Oper.wpIn
 refine ⟨fun f _ => hF.fn f, ?_⟩
 rw [Oper.semAt_plain F _ _ fun c hc => by rw [hc] at hv; simp [Df, Pg.run] at hv]
 generalize (execOp a.eval o).run P w = res at hout ⊢
 cases res with
 | halt x w' => exact hout.elim
 | ok nx w' =>
  cases nx with
  | value v =>
   obtain ⟨g', h1, h2, h3, h4⟩ := hout
   obtain ⟨h5, h6, h7⟩ := G8 h1 h2 hs
   exact hK _ _ ⟨g', h5, by rw [h7]; exact h3.mv0, h4, h6, by rw [h7]; exact h3.st⟩
  | skip =>
   obtain ⟨g', h1, h2, h3, h4⟩ := hout
   obtain ⟨h5, h6, h7⟩ := G8 h1 h2 hs
   exact hK _ _ ⟨g', h5, by rw [h7]; exact h3.mv0, h4, h6, by rw [h7]; exact h3.st⟩
  | enter f args =>
   refine ⟨fun hd => hF.depth hd, CallsIn.mono (hF.calls (show Calls P f args w' _ from hout)) ?_⟩
   rintro e w'' ⟨v, rfl, g', h1, h2, h3, h4⟩
   obtain ⟨h5, h6, h7⟩ := G8 h1 h2 hs
   exact hK _ _ ⟨g', h5, by rw [h7]; exact h3.mv0, h4, h6, by rw [h7]; exact h3.st⟩
  | _ => exact hout.elim
theorem Ql {E : Env} (hE : EnvOk P E) (hF : Fw F) {ops : Array Oper} {o : Oper} {i : Nat} (hi : ops[i]? = some o) (h : Rel w g σ a.tmps []) {σ' : St}
  (hr : (operP E ops o).run E.tab σ (fun a s => some (a, s)) = some ((), σ')) {Q : Exit → Act → World → Prop} {K : Act → World → Prop}
  (hK : ∀ a' w', After E.pins w g σ.mem a.defers σ' a' w' → K a' w') : wpOpIn F n P ops Q i K a w := by
 unfold wpOpIn
 simp only [hi]
 unfold operP at hr
 cases hg : o.guard with
 | none =>
  rw [hg] at hr
  simp only [Region.wanted, hg, if_true]
  exact Hh hE hF h hr hK
 | some jb =>
  obtain ⟨j, b⟩ := jb
  rw [hg] at hr
  simp only at hr
  cases ht : (ops[j]?).bind (·.dst) with
  | none => rw [ht] at hr; simp [Pg.run] at hr
  | some t =>
   rw [ht] at hr
   simp only at hr
   have hskip : ∀ {σ0 : St}, Rel w g σ0 a.tmps [] → σ0.mem = σ.mem → (Dl o Ey).run E.tab σ0 (fun a s => some (a, s)) = some ((), σ') → K (a.put o.dst undef) w := by
    intro σ0 h0 hm0 hs
    obtain ⟨h5, h6, h7⟩ := G8 (v := undef) h0 (show AR w g σ0.mem (.one (.v undef)) undef from ⟨rfl, rfl⟩) hs
    exact hK _ _ ⟨g, h5, by rw [h7, hm0]; exact Mv0.refl _ _ _ _, Frm.refl _ _, h6, by rw [h7, hm0]; exact Step.refl _ _ _⟩
   have hyb : ∀ c, σ.tmp t = .one (.v (.bool c)) → yielded ops a.tmps j = some c := by
    intro c hc
    have hv : a.tmps.getD t undef = .bool c := by
     have := h.tmps t
     rw [hc] at this
     exact this.1
    unfold yielded
    rw [ht]
    simp only [Option.bind_some]
    by_cases hlt : t < a.tmps.size
    ·simp only [Array.getD, hlt, dif_pos] at hv
     rw [Array.getElem?_eq_getElem hlt]
     rw [show a.tmps[t] = .bool c from hv]
    ·simp only [Array.getD, hlt, dif_neg, not_false_eq_true] at hv
     simp [undef] at hv
   have hyt : ∀ cs, σ.tmp t = .one (.v (.tuple cs)) → yielded ops a.tmps j = none := by
    intro c hc
    have hv : a.tmps.getD t undef = .tuple c := by
     have := h.tmps t
     rw [hc] at this
     exact this.1
    unfold yielded
    rw [ht]
    simp only [Option.bind_some]
    by_cases hlt : t < a.tmps.size
    ·simp only [Array.getD, hlt, dif_pos] at hv
     rw [Array.getElem?_eq_getElem hlt]
     rw [show a.tmps[t] = .tuple c from hv]
    ·rw [Array.getElem?_eq_none (Nat.le_of_not_lt hlt)]
   have hcond : ∀ {c : Bool} {p q : Pg Unit}, (Pg.brT t p q (Dl o Ey)).run E.tab σ (fun a s => some (a, s)) = some ((), σ') →
     (∃ cs, σ.tmp t = .one (.v (.tuple cs)) ∧ (Dl o Ey).run E.tab σ (fun a s => some (a, s)) = some ((), σ')) ∨
     ∃ c σ1, σ.tmp t = .one (.v (.bool c)) ∧ σ1.mem = σ.mem ∧ Rel w g σ1 a.tmps [] ∧ (cond c p q).run E.tab σ1 (fun a s => some (a, s)) = some ((), σ') := by
    intro c p q hr
    simp only [Pg.run] at hr
    split at hr
    ·rename_i c hc
     cases c with
     | true => exact .inr ⟨true, σ.setT t (.one (.v (.bool true))), hc, rfl, h.setB hc, hr⟩
     | false => exact .inr ⟨false, σ.setT t (.one (.v (.bool false))), hc, rfl, h.setB hc, hr⟩
    ·rename_i cs hc
     exact .inl ⟨cs, hc, hr⟩
    ·simp at hr
   simp only [Region.wanted, hg]
   cases b with
   | true =>
    simp only [cond_true] at hr
    rcases hcond (c := true) hr with ⟨cs, hc, hr⟩ | ⟨c, σ1, hc, hmm, h1, hr⟩
    ·rw [hyt cs hc]
     exact ⟨fun f _ => hF.fn f, hskip h rfl hr⟩
    ·rw [hyb c hc]
     cases c with
     | true => exact Hh hE hF h1 hr (by rw [hmm]; exact hK)
     | false => exact ⟨fun f _ => hF.fn f, hskip h1 hmm hr⟩
   | false =>
    simp only [cond_false] at hr
    rcases hcond (c := true) hr with ⟨cs, hc, hr⟩ | ⟨c, σ1, hc, hmm, h1, hr⟩
    ·rw [hyt cs hc]
     exact ⟨fun f _ => hF.fn f, hskip h rfl hr⟩
    ·rw [hyb c hc]
     cases c with
     | false => exact Hh hE hF h1 hr (by rw [hmm]; exact hK)
     | true => exact ⟨fun f _ => hF.fn f, hskip h1 hmm hr⟩
theorem Sq {E : Env} (hE : EnvOk P E) (hF : Fw F) {ops : Array Oper} {Q : Exit → Act → World → Prop} : ∀ {l : List Oper} {k : Nat} {w : World} {g : Gh} {σ σ' : St} {a : Act}, ops.toList.drop k = l →
  Rel w g σ a.tmps [] → (Xxn E ops l).run E.tab σ (fun a s => some (a, s)) = some ((), σ') → (∀ a' w', After E.pins w g σ.mem a.defers σ' a' w' → Q .normal a' w') →
  wpOpsIn F n P ops Q (List.range' k l.length) a w
 | [], k, w, g, σ, σ', a, hl, h, hr, hQ => by
  obtain ⟨_, rfl⟩ := Cl hr
  exact hQ a w ⟨g, h, Mv0.refl _ _ _ _, Frm.refl _ _, rfl, Step.refl _ _ _⟩
 | o :: l, k, w, g, σ, σ', a, hl, h, hr, hQ => by
  simp only [Xxn, run_bind] at hr
  obtain ⟨_, σ1, h1, hr⟩ := Dh hr
  have hi : ops[k]? = some o := by
   have := congrArg (·[0]?) hl
   simpa using this
  have hl' : ops.toList.drop (k + 1) = l := by
   have := congrArg List.tail hl
   simpa using this
  simp only [List.length_cons, List.range'_succ]
  rw [wpOpsIn_cons]
  refine Ql hE hF hi h h1 fun a1 w1 ha => ?_
  obtain ⟨g1, r1, m1, f1, d1, s1⟩ := ha.ex
  refine Sq hE hF hl' r1 hr fun a' w' ha' => hQ a' w' ?_
  rw [d1] at ha'
  exact After.trans m1 f1 s1 ha'
end
end Go.Rf
end

section
set_option linter.unusedVariables false
set_option linter.unusedSimpArgs false
namespace Go.Rf
def look (σ : St) (κ : Nat) : A × Option Ent := if κ % 2 = 0 then (σ.tmp (κ / 2), none) else (.one .d, σ.mem (κ / 2))
theorem Xgb (σ : St) (t : Nat) : look σ (2 * t) = (σ.tmp t, none) := by simp [look]
theorem Oy (σ : St) (k : Nat) : look σ (2 * k + 1) = (.one .d, σ.mem k) := by
 have h1 : (2 * k + 1) % 2 = 1 := by omega
 have h2 : (2 * k + 1) / 2 = k := by omega
 simp [look, h1, h2]
theorem Gy (σ : St) (t : Nat) (x : A) (κ : Nat) : look (σ.setT t x) κ = if κ = 2 * t then ((if t < σ.ts.length then x else σ.tmp t), none) else look σ κ := by
 unfold look
 by_cases h : κ % 2 = 0
 ·simp only [h, if_true]
  by_cases h2 : κ = 2 * t
  ·subst h2
   have : 2 * t / 2 = t := by omega
   simp only [if_true, this, St.tmp, St.setT, Jn, true_and]
  ·have : κ / 2 ≠ t := by omega
   simp only [h2, if_false, St.tmp, St.setT, Jn, this, false_and]
 ·have h2 : κ ≠ 2 * t := by omega
  simp only [h, if_false, h2, St.mem_setT]
theorem Jw (σ : St) (k : Nat) (e : Ent) (κ : Nat) : look (σ.setM k e) κ = if κ = 2 * k + 1 then (.one .d, some e) else look σ κ := by
 unfold look
 by_cases h : κ % 2 = 0
 ·have h2 : κ ≠ 2 * k + 1 := by omega
  simp only [h, if_true, h2, if_false, St.tmp_setM]
 ·simp only [h, if_false, St.mem_setM]
  by_cases h2 : κ = 2 * k + 1
  ·subst h2
   have : (2 * k + 1) / 2 = k := by omega
   simp only [this, if_true]
  ·have : κ / 2 ≠ k := by omega
   simp only [this, if_false, h2]
theorem Dx {σ ρ : St} {t : Nat} (h : look ρ (2 * t) = look σ (2 * t)) : ρ.tmp t = σ.tmp t := by
 rw [Xgb, Xgb] at h; exact (Prod.mk.inj h).1
theorem Qk {σ ρ : St} {k : Nat} (h : look ρ (2 * k + 1) = look σ (2 * k + 1)) : ρ.mem k = σ.mem k := by
 rw [Oy, Oy] at h; exact (Prod.mk.inj h).2
theorem Dz (σ : St) (t : Nat) (x : A) : (σ.setT t x).ts.length = σ.ts.length := by simp [St.setT, Ui]
structure Loc3 {α : Type} (tab : Tab) (p : Pg α) (σ : St) (a : α) (σ' : St) (l : Log) : Prop where
 len : σ'.ts.length = σ.ts.length
 keep : ∀ κ, (κ, true) ∉ l → look σ' κ = look σ κ
 run : ∀ ρ : St, ρ.ts.length = σ.ts.length → (∀ κ b, (κ, b) ∈ l → look ρ κ = look σ κ) →
  ∃ ρ', p.run tab ρ (fun a s => some (a, s)) = some (a, ρ') ∧ ρ'.ts.length = ρ.ts.length ∧ (∀ κ, (κ, true) ∈ l → look ρ' κ = look σ' κ) ∧ ∀ κ, (κ, true) ∉ l → look ρ' κ = look ρ κ
theorem Xqq {tab : Tab} {α : Type} : ∀ (p : Pg α) (σ : St) (g : Log) (a : α) (σ' : St) (l : Log), p.runD tab σ g (fun a s l => some (a, s, l)) = some (a, σ', l) →
  ∃ l', l = l' ++ g ∧ Loc3 tab p σ a σ' l' := by
 intro p
 induction p with
 | ret x =>
  intro σ g a σ' l h
  simp only [Pg.runD, Option.some.injEq, Prod.mk.injEq] at h
  obtain ⟨rfl, rfl, rfl⟩ := h
  exact ⟨[], rfl, rfl, fun _ _ => rfl, fun ρ _ _ => ⟨ρ, rfl, rfl, fun κ h => by simp at h, fun _ _ => rfl⟩⟩
 | fail => intro σ g a σ' l h; simp [Pg.runD] at h
 | getT t p ih =>
  intro σ g a σ' l h
  simp only [Pg.runD] at h
  obtain ⟨l', rfl, L⟩ := ih _ _ _ _ _ _ h
  refine ⟨l' ++ [(2 * t, false)], by simp, L.len, fun κ hκ => L.keep κ fun h => hκ (by simp [h]), fun ρ hl ha => ?_⟩
  have ht : ρ.tmp t = σ.tmp t := Dx (ha (2 * t) false (by simp))
  obtain ⟨ρ', h1, h2, h3, h4⟩ := L.run ρ hl fun κ b hb => ha κ b (by simp [hb])
  refine ⟨ρ', by simp only [Pg.run]; rw [ht]; exact h1, h2, fun κ hκ => h3 κ (by simpa using hκ), fun κ hκ => h4 κ fun h => hκ (by simp [h])⟩
 | setT t x p ih =>
  intro σ g a σ' l h
  simp only [Pg.runD] at h
  obtain ⟨l', rfl, L⟩ := ih _ _ _ _ _ h
  refine ⟨l' ++ [(2 * t, true)], by simp, by rw [L.len, Dz], fun κ hκ => ?_, fun ρ hl ha => ?_⟩
  ·have h1 : κ ≠ 2 * t := fun h => hκ (by simp [h])
   rw [L.keep κ fun h => hκ (by simp [h]), Gy, if_neg h1]
  ·have hag : ∀ κ, look ρ κ = look σ κ ∨ κ = 2 * t → look (ρ.setT t x) κ = look (σ.setT t x) κ := by
    intro κ hκ
    rw [Gy, Gy]
    by_cases h1 : κ = 2 * t
    ·rw [if_pos h1, if_pos h1, hl]
     have := Dx (ha (2 * t) true (by simp))
     rw [this]
    ·rw [if_neg h1, if_neg h1]; exact hκ.resolve_right h1
   obtain ⟨ρ', h1, h2, h3, h4⟩ := L.run (ρ.setT t x) (by rw [Dz, Dz, hl]) fun κ b hb => hag κ (.inl (ha κ b (by simp [hb])))
   refine ⟨ρ', by simp only [Pg.run]; exact h1, by rw [h2, Dz], fun κ hκ => ?_, fun κ hκ => ?_⟩
   ·by_cases h5 : (κ, true) ∈ l'
    ·exact h3 κ h5
    ·have : κ = 2 * t := by simpa [h5] using hκ
     rw [h4 κ h5, hag κ (.inr this), L.keep κ h5]
   ·have h5 : κ ≠ 2 * t := fun h => hκ (by simp [h])
    rw [h4 κ fun h => hκ (by simp [h]), Gy, if_neg h5]
 | getM k p ih =>
  intro σ g a σ' l h
  simp only [Pg.runD] at h
  obtain ⟨l', rfl, L⟩ := ih _ _ _ _ _ _ h
  refine ⟨l' ++ [(2 * k + 1, false)], by simp, L.len, fun κ hκ => L.keep κ fun h => hκ (by simp [h]), fun ρ hl ha => ?_⟩
  have ht : ρ.mem k = σ.mem k := Qk (ha (2 * k + 1) false (by simp))
  obtain ⟨ρ', h1, h2, h3, h4⟩ := L.run ρ hl fun κ b hb => ha κ b (by simp [hb])
  refine ⟨ρ', by simp only [Pg.run]; rw [ht]; exact h1, h2, fun κ hκ => h3 κ (by simpa using hκ), fun κ hκ => h4 κ fun h => hκ (by simp [h])⟩
 | setM k e p ih =>
  intro σ g a σ' l h
  simp only [Pg.runD] at h
  obtain ⟨l', rfl, L⟩ := ih _ _ _ _ _ h
  refine ⟨l' ++ [(2 * k + 1, true)], by simp, L.len, fun κ hκ => ?_, fun ρ hl ha => ?_⟩
  ·have h1 : κ ≠ 2 * k + 1 := fun h => hκ (by simp [h])
   rw [L.keep κ fun h => hκ (by simp [h]), Jw, if_neg h1]
  ·have hag : ∀ κ, look ρ κ = look σ κ ∨ κ = 2 * k + 1 → look (ρ.setM k e) κ = look (σ.setM k e) κ := by
    intro κ hκ
    rw [Jw, Jw]
    by_cases h1 : κ = 2 * k + 1
    ·rw [if_pos h1, if_pos h1]
    ·rw [if_neg h1, if_neg h1]; exact hκ.resolve_right h1
   obtain ⟨ρ', h1, h2, h3, h4⟩ := L.run (ρ.setM k e) hl fun κ b hb => hag κ (.inl (ha κ b (by simp [hb])))
   refine ⟨ρ', by simp only [Pg.run]; exact h1, h2, fun κ hκ => ?_, fun κ hκ => ?_⟩
   ·by_cases h5 : (κ, true) ∈ l'
    ·exact h3 κ h5
    ·have : κ = 2 * k + 1 := by simpa [h5] using hκ
     rw [h4 κ h5, hag κ (.inr this), L.keep κ h5]
   ·have h5 : κ ≠ 2 * k + 1 := fun h => hκ (by simp [h])
    rw [h4 κ fun h => hκ (by simp [h]), Jw, if_neg h5]
 | br b p q ihp ihq =>
  intro σ g a σ' l h
  simp only [Pg.runD] at h
  cases b with
  | true =>
   obtain ⟨l', rfl, L⟩ := ihp _ _ _ _ _ h
   exact ⟨l', rfl, L.len, L.keep, fun ρ hl ha => by simp only [Pg.run, cond_true]; exact L.run ρ hl ha⟩
  | false =>
   obtain ⟨l', rfl, L⟩ := ihq _ _ _ _ _ h
   exact ⟨l', rfl, L.len, L.keep, fun ρ hl ha => by simp only [Pg.run, cond_false]; exact L.run ρ hl ha⟩
 | brT t p q u ihp ihq ihu =>
  intro σ g a σ' l h
  simp only [Pg.runD] at h
  have hsame : ∀ {ρ : St} {c : Bool}, ρ.tmp t = .one (.v (.bool c)) → ∀ κ, look (ρ.setT t (.one (.v (.bool c)))) κ = look ρ κ := by
   intro ρ c hc κ
   rw [Gy]
   by_cases h1 : κ = 2 * t
   ·rw [if_pos h1, h1, Xgb, hc]; split <;> rfl
   ·rw [if_neg h1]
  split at h
  ·rename_i c hc
   have key : ∀ (s : Pg α), (∀ (σ : St) (g : Log) (a : α) (σ' : St) (l : Log), s.runD tab σ g (fun a s l => some (a, s, l)) = some (a, σ', l) → ∃ l', l = l' ++ g ∧ Loc3 tab s σ a σ' l') →
     s.runD tab (σ.setT t (.one (.v (.bool c)))) ((2 * t, false) :: g) (fun a s l => some (a, s, l)) = some (a, σ', l) →
     (∀ ρ : St, ρ.tmp t = .one (.v (.bool c)) → (Pg.brT t p q u).run tab ρ (fun a s => some (a, s)) = s.run tab (ρ.setT t (.one (.v (.bool c)))) (fun a s => some (a, s))) →
     ∃ l', l = l' ++ g ∧ Loc3 tab (Pg.brT t p q u) σ a σ' l' := by
    intro s ih hs hrun
    obtain ⟨l', rfl, L⟩ := ih _ _ _ _ _ hs
    refine ⟨l' ++ [(2 * t, false)], by simp, by rw [L.len, Dz], fun κ hκ => ?_, fun ρ hl ha => ?_⟩
    ·rw [L.keep κ fun h => hκ (by simp [h]), hsame hc]
    ·have ht : ρ.tmp t = .one (.v (.bool c)) := (Dx (ha (2 * t) false (by simp))).trans hc
     obtain ⟨ρ', h1, h2, h3, h4⟩ := L.run (ρ.setT t (.one (.v (.bool c)))) (by rw [Dz, Dz, hl]) fun κ b hb => by
      rw [hsame ht, hsame hc]; exact ha κ b (by simp [hb])
     refine ⟨ρ', by rw [hrun ρ ht]; exact h1, by rw [h2, Dz], fun κ hκ => h3 κ (by simpa using hκ), fun κ hκ => ?_⟩
     rw [h4 κ fun h => hκ (by simp [h]), hsame ht]
   cases c with
   | true => exact key p ihp h fun ρ hρ => by simp only [Pg.run, hρ, cond_true]
   | false => exact key q ihq h fun ρ hρ => by simp only [Pg.run, hρ, cond_false]
  ·rename_i cs hc
   obtain ⟨l', rfl, L⟩ := ihu _ _ _ _ _ h
   refine ⟨l' ++ [(2 * t, false)], by simp, L.len, fun κ hκ => L.keep κ fun h => hκ (by simp [h]), fun ρ hl ha => ?_⟩
   have ht : ρ.tmp t = .one (.v (.tuple cs)) := (Dx (ha (2 * t) false (by simp))).trans hc
   obtain ⟨ρ', h1, h2, h3, h4⟩ := L.run ρ hl fun κ b hb => ha κ b (by simp [hb])
   refine ⟨ρ', by simp only [Pg.run, ht]; exact h1, h2, fun κ hκ => h3 κ (by simpa using hκ), fun κ hκ => h4 κ fun h => hκ (by simp [h])⟩
  ·simp at h
 | call f as p ih =>
  intro σ g a σ' l h
  simp only [Pg.runD] at h
  split at h
  ·rename_i cr hcr
   cases ho : cr.o with
   | none => rw [ho] at h; simp at h
   | some r =>
    rw [ho] at h
    obtain ⟨l', rfl, L⟩ := ih _ _ _ _ _ _ h
    exact ⟨l', rfl, L.len, L.keep, fun ρ hl ha => by simp only [Pg.run, hcr, ho, Option.bind_some]; exact L.run ρ hl ha⟩
  ·simp at h
theorem Xi7 {tab : Tab} {α β : Type} (K : α → St → Log → Option β) : ∀ (p : Pg α) (σ : St) (g : Log), p.runD tab σ g K = (p.runD tab σ g fun a s l => some (a, s, l)).bind fun z => K z.1 z.2.1 z.2.2 := by
 intro p
 induction p with
 | ret a => intro σ g; rfl
 | fail => intro σ g; rfl
 | getT t p ih => intro σ g; simp only [Pg.runD]; exact ih _ _ _
 | setT t x p ih => intro σ g; simp only [Pg.runD]; exact ih _ _
 | getM κ p ih => intro σ g; simp only [Pg.runD]; exact ih _ _ _
 | setM κ e p ih => intro σ g; simp only [Pg.runD]; exact ih _ _
 | br b p q ihp ihq =>
  intro σ g
  cases b with
  | true => simp only [Pg.runD, cond_true]; exact ihp _ _
  | false => simp only [Pg.runD, cond_false]; exact ihq _ _
 | brT t p q u ihp ihq ihu =>
  intro σ g
  simp only [Pg.runD]
  split
  ·rename_i c _
   cases c with
   | true => simp only [cond_true]; exact ihp _ _
   | false => simp only [cond_false]; exact ihq _ _
  ·exact ihu _ _
  ·rfl
 | call f as p ih =>
  intro σ g
  simp only [Pg.runD]
  split
  ·rename_i cr _
   cases cr.o with
   | none => rfl
   | some r => exact ih _ _ _
  ·rfl
theorem Vc {E : Env} {ops : Array Oper} {β : Type} {r : β} : ∀ {l : List Oper} {gs : List Log} {σ : St} {k : List Log → St → Option β}, V8 E ops l gs σ k = some r →
  ∃ (s : Nat → St) (ls : List Log), ls.length = l.length ∧ s 0 = σ ∧ (∀ (j : Nat) (o : Oper), l[j]? = some o → ∃ lg, ls[j]? = some lg ∧ Loc3 E.tab (operP E ops o) (s j) () (s (j + 1)) lg) ∧
   k (gs ++ ls) (s l.length) = some r
 | [], gs, σ, k, h => ⟨fun _ => σ, [], rfl, rfl, by simp, by simpa [V8] using h⟩
 | o :: l, gs, σ, k, h => by
  simp only [V8] at h
  rw [Xi7] at h
  cases hz : (operP E ops o).runD E.tab σ [] fun a s l => some (a, s, l) with
  | none => rw [hz] at h; simp at h
  | some z =>
   obtain ⟨u, σ1, lg⟩ := z
   rw [hz] at h
   simp only [Option.bind_some] at h
   obtain ⟨l', hl', L⟩ := Xqq _ _ _ _ _ _ hz
   rw [List.append_nil] at hl'
   subst hl'
   obtain ⟨s, ls, h1, h2, h3, h4⟩ := Vc h
   refine ⟨fun | 0 => σ | n + 1 => s n, lg :: ls, by simp [h1], rfl, fun j o' hj => ?_, by simpa using h4⟩
   cases j with
   | zero => simp at hj; subst hj; exact ⟨lg, rfl, by rw [← h2] at L; simpa using L⟩
   | succ j => obtain ⟨lg', h5, h6⟩ := h3 j o' (by simpa using hj); exact ⟨lg', by simpa using h5, h6⟩
end Go.Rf
end
