/-
  What the proof of this row needs, part 3: the typed evaluator of the translated code, the functions that the law reaches as plain functions, and what they answer.
-/
import Derived.RangeFuncLeaves
import Derived.RangeFuncSeq
import Derived.Below
import Derived.ChangeArms
import Derived.ChangeShapes
import Derived.WideShapes
import Derived.SizedLaws
import Derived.IntWalk
import Derived.Test.YtdmepjjepogddaaGreatA2
section
set_option linter.unusedVariables false
set_option linter.unusedSimpArgs false
namespace Go.Rf
theorem Xna {acc : List Nat} {o : Oper} {i : Nat} (h : (Xi6 acc o).testBit i = true) : ∃ e ∈ o.after.toList, Region.binds .any e = true ∧ (i = e.on ∨ (nthD acc e.on 0).testBit i = true) := by
 unfold Xi6 at h
 generalize o.after.toList = l at h ⊢
 induction l with
 | nil => simp at h
 | cons e l ih =>
  simp only [List.foldr_cons] at h
  cases hb : Region.binds .any e with
  | false =>
   rw [hb] at h
   obtain ⟨e', h1, h2⟩ := ih h
   exact ⟨e', List.mem_cons_of_mem _ h1, h2⟩
  | true =>
   rw [hb] at h
   simp only [cond_true, Nat.testBit_or, Bool.or_eq_true] at h
   rcases h with (h | h) | h
   ·obtain ⟨e', h1, h2⟩ := ih h
    exact ⟨e', List.mem_cons_of_mem _ h1, h2⟩
   ·rw [Nat.testBit_two_pow] at h
    exact ⟨e, List.mem_cons_self, hb, .inl (by have := of_decide_eq_true h; omega)⟩
   ·exact ⟨e, List.mem_cons_self, hb, .inr h⟩
theorem Gc : ∀ (acc : List Nat) (l : List Oper) (i : Nat), i < acc.length → nthD (C6 acc l) i 0 = nthD acc i 0
 | acc, [], i, h => rfl
 | acc, o :: l, i, h => by
  simp only [C6]
  rw [Gc _ _ _ (by simp; omega), Bw, Bw]
  simp only [List.getD_eq_getElem?_getD]
  rw [List.getElem?_append_left h]
theorem Lg : ∀ (acc : List Nat) (l : List Oper) (j : Nat) (o : Oper) (i : Nat), l[j]? = some o → (nthD (C6 acc l) (acc.length + j) 0).testBit i = true →
  ∃ e ∈ o.after.toList, Region.binds .any e = true ∧ (i = e.on ∨ (nthD (C6 acc l) e.on 0).testBit i = true)
 | acc, [], j, o, i, h, _ => by simp at h
 | acc, o :: l, 0, o', i, h, hb => by
  simp at h; subst h
  simp only [C6] at hb ⊢
  rw [Gc _ _ _ (by simp)] at hb
  have e1 : nthD (acc ++ [Xi6 acc o]) (acc.length + 0) 0 = Xi6 acc o := by rw [Bw]; simp
  rw [e1] at hb
  obtain ⟨e, h1, h2, h3⟩ := Xna hb
  refine ⟨e, h1, h2, h3.imp id fun h3 => ?_⟩
  by_cases hlt : e.on < acc.length
  ·rw [Gc _ _ _ (by simp; omega), Bw]
   rw [Bw] at h3
   simp only [List.getD_eq_getElem?_getD] at h3 ⊢
   rw [List.getElem?_append_left hlt]; exact h3
  ·rw [Bw] at h3
   simp only [List.getD_eq_getElem?_getD] at h3
   rw [List.getElem?_eq_none (by omega)] at h3
   simp at h3
 | acc, o :: l, j + 1, o', i, h, hb => by
  simp only [C6] at hb ⊢
  have e1 : acc.length + (j + 1) = (acc ++ [Xi6 acc o]).length + j := by simp; omega
  rw [e1] at hb
  exact Lg _ l j o' i (by simpa using h) hb
theorem Lj : ∀ {l : List Oper} {k j : Nat} {o : Oper}, Fb k l = true → l[j]? = some o → ∀ e ∈ o.after.toList, Region.binds .any e = true → e.on < k + j
 | [], k, j, o, h, hj, e, he, hb => by simp at hj
 | o :: l, k, 0, o', h, hj, e, he, hb => by
  simp at hj; subst hj
  simp only [Fb, Bool.and_eq_true, List.all_eq_true] at h
  have := h.1 e he
  simp only [hb, Bool.not_true, Bool.false_or] at this
  simpa using this
 | o :: l, k, j + 1, o', h, hj, e, he, hb => by
  simp only [Fb, Bool.and_eq_true] at h
  have := Lj h.2 (j := j) (by simpa using hj) e he hb
  omega
theorem He : ∀ {g x : Log}, meets g x = false → ∀ κ b c, (κ, b) ∈ g → (κ, c) ∈ x → b = false ∧ c = false
 | [], x, h, κ, b, c, h1, h2 => by simp at h1
 | (k, w) :: g, x, h, κ, b, c, h1, h2 => by
  simp only [meets, Bool.or_eq_false_iff] at h
  rcases List.mem_cons.1 h1 with h1 | h1
  ·simp only [Prod.mk.injEq] at h1
   obtain ⟨rfl, rfl⟩ := h1
   have := List.any_eq_false.1 h.1 (κ, c) h2
   simp only [Bool.and_eq_true, Nat.beq_eq_true_eq, true_and, Bool.not_eq_true] at this
   simpa using this
  ·exact He h.2 κ b c h1 h2
theorem Jh {b : Nat} {x : Log} : ∀ {gs : List Log} {k i : Nat} {g : Log}, Gj b k gs x = true → gs[i]? = some g → b.testBit (k + i) = true ∨ meets g x = false
 | [], k, i, g, h, hi => by simp at hi
 | g :: gs, k, 0, g', h, hi => by
  simp at hi; subst hi
  simp only [Gj, Bool.and_eq_true, Bool.or_eq_true, Bool.not_eq_true'] at h
  exact h.1
 | g :: gs, k, i + 1, g', h, hi => by
  simp only [Gj, Bool.and_eq_true] at h
  have := Jh h.2 (i := i) (by simpa using hi)
  rwa [show k + 1 + i = k + (i + 1) by omega] at this
theorem Qu {bs : List Nat} : ∀ {ls dn : List Log} {k : Nat}, dn.length = k → Oz bs k dn ls = true → ∀ i j gi gj, i < j → (dn ++ ls)[i]? = some gi → (dn ++ ls)[j]? = some gj → k ≤ j →
  (nthD bs j 0).testBit i = true ∨ meets gi gj = false
 | [], dn, k, hk, h, i, j, gi, gj, hij, h1, h2, hkj => by
  have := (List.getElem?_eq_some_iff.1 h2).1
  simp at this; omega
 | x :: ls, dn, k, hk, h, i, j, gi, gj, hij, h1, h2, hkj => by
  simp only [Oz, Bool.and_eq_true] at h
  by_cases hj : j = k
  ·subst hj
   have e2 : (dn ++ x :: ls)[j]? = some x := by rw [← hk]; simp
   rw [e2] at h2; cases h2
   rw [List.getElem?_append_left (by omega)] at h1
   have := Jh h.1 h1
   rwa [Nat.zero_add] at this
  ·exact Qu (dn := dn ++ [x]) (by simp [hk]) h.2 i j gi gj hij (by simpa using h1) (by simpa using h2) (by omega)
theorem Xnq {σ ρ : St} (hl : ρ.ts.length = σ.ts.length) (h : ∀ κ, look ρ κ = look σ κ) {w : World} {g : Gh} {ts : Array Value} {H : Hand} (hr : Rel w g ρ ts H) : Rel w g σ ts H := by
 have hm : ρ.mem = σ.mem := funext fun k => Qk (h _)
 have ht : ∀ t, ρ.tmp t = σ.tmp t := fun t => Dx (h _)
 refine ⟨?_, hr.cell, hr.inj, ?_, ?_, by rw [← hl]; exact hr.len, hr.nd, hr.dj, hr.box, hr.st, hr.hnd, hr.hdj, hr.hand⟩
 ·rw [← hm]; exact hr.mem
 ·rw [← hm]; exact hr.pres
 ·rw [← hm]; intro t; rw [← ht t]; exact hr.tmps t
section
variable {P : Program} {w : World} {g : Gh} {σ : St} {tab : Tab} {γ : Type} {r : γ} {H : Hand} {a : Act}
structure Lex (E : Env) (ops : Array Oper) (s : Nat → St) (ls : List Log) : Prop where
 len : ls.length = ops.size
 step : ∀ (j : Nat) (o : Oper), ops[j]? = some o → ∃ lg, ls[j]? = some lg ∧ Loc3 E.tab (operP E ops o) (s j) () (s (j + 1)) lg
 apart : ∀ i j gi gj, i < j → ls[i]? = some gi → ls[j]? = some gj → (nthD (befores ops.toList) j 0).testBit i = true ∨ meets gi gj = false
 back : ∀ (j : Nat) (o : Oper), ops[j]? = some o → ∀ e ∈ o.after.toList, Region.binds .any e = true → e.on < j
def Lex.wr (ls : List Log) (i κ : Nat) : Prop := ∃ gi, ls[i]? = some gi ∧ (κ, true) ∈ gi
structure Amid (n : Nat) (s : Nat → St) (ls : List Log) (L : Nat → Prop) (ρ : St) : Prop where
 len : ρ.ts.length = (s 0).ts.length
 at_ : ∀ κ, ∃ m, m ≤ n ∧ Rf.look ρ κ = Rf.look (s m) κ ∧ (m = 0 ∨ ∃ i, m = i + 1 ∧ L i ∧ Lex.wr ls i κ) ∧ ∀ i, m ≤ i → Lex.wr ls i κ → ¬ L i
theorem Lex.slen {E : Env} {ops : Array Oper} {s : Nat → St} {ls : List Log} (h : Lex E ops s ls) : ∀ j, j ≤ ops.size → (s j).ts.length = (s 0).ts.length
 | 0, _ => rfl
 | j + 1, hj => by
  obtain ⟨lg, _, L⟩ := h.step j ops[j] (Array.getElem?_eq_getElem (by omega))
  rw [L.len, h.slen j (by omega)]
theorem Lex.same {E : Env} {ops : Array Oper} {s : Nat → St} {ls : List Log} (h : Lex E ops s ls) {κ : Nat} : ∀ {m j : Nat}, m ≤ j → j ≤ ops.size → (∀ i, m ≤ i → i < j → ¬ Lex.wr ls i κ) → look (s m) κ = look (s j) κ := by
  intro m j hmj
  induction j with
  | zero => intro _ _; have : m = 0 := by omega
            rw [this]
  | succ j ih =>
    intro hj hw
    by_cases hm : m = j + 1
    · rw [hm]
    · obtain ⟨lg, hlg, L⟩ := h.step j ops[j] (Array.getElem?_eq_getElem (by omega))
      rw [ih (by omega) (by omega) fun i h1 h2 => hw i h1 (by omega)]
      rw [L.keep κ fun hk => hw j (by omega) (by omega) ⟨lg, hlg, hk⟩]
theorem Amid.next {E : Env} {ops : Array Oper} {s : Nat → St} {ls : List Log} (h : Lex E ops s ls) {L : Nat → Prop} {ρ : St} (hA : Amid ops.size s ls L ρ)
  (hc : ∀ k i, L k → (nthD (befores ops.toList) k 0).testBit i = true → L i) {j : Nat} {o : Oper} (hj : ops[j]? = some o) (hnj : ¬ L j)
  (hcj : ∀ i, (nthD (befores ops.toList) j 0).testBit i = true → L i) :
  ∃ ρ', (operP E ops o).run E.tab ρ (fun a s => some (a, s)) = some ((), ρ') ∧ Amid ops.size s ls (fun i => L i ∨ i = j) ρ' := by
 obtain ⟨lg, hlg, Lo⟩ := h.step j o hj
 have hjn : j < ops.size := (Array.getElem?_eq_some_iff.1 hj).1
 have hag : ∀ κ b, (κ, b) ∈ lg → look ρ κ = look (s j) κ := by
  intro κ b hb
  obtain ⟨m, hmn, h1, h2, h3⟩ := hA.at_ κ
  rw [h1]
  by_cases hmj : m ≤ j
  ·refine h.same hmj (by omega) fun i hi1 hi2 hw => ?_
   obtain ⟨gi, hgi, hki⟩ := hw
   rcases h.apart i j gi lg hi2 hgi hlg with h4 | h4
   ·exact h3 i hi1 ⟨gi, hgi, hki⟩ (hcj i h4)
   ·have := (He h4 κ true b hki hb).1
    simp at this
  ·rcases h2 with h2 | ⟨i, rfl, hLi, gi, hgi, hki⟩
   ·omega
   ·by_cases hij : i = j
    ·subst hij; exact absurd hLi hnj
    ·rcases h.apart j i lg gi (by omega) hlg hgi with h4 | h4
     ·exact absurd (hc i j hLi h4) hnj
     ·have := (He h4 κ b true hb hki).2
      simp at this
 obtain ⟨ρ', h1, h2, h3, h4⟩ := Lo.run ρ (by rw [hA.len, h.slen j (by omega)]) hag
 refine ⟨ρ', h1, by rw [h2, hA.len], fun κ => ?_⟩
 by_cases hw : (κ, true) ∈ lg
 ·refine ⟨j + 1, by omega, h3 κ hw, .inr ⟨j, rfl, .inr rfl, lg, hlg, hw⟩, fun i hi hwi => ?_⟩
  rintro (hL | rfl)
  ·obtain ⟨gi, hgi, hki⟩ := hwi
   rcases h.apart j i lg gi (by omega) hlg hgi with h5 | h5
   ·exact hnj (hc i j hL h5)
   ·have := (He h5 κ true true hw hki).1
    simp at this
  ·omega
 ·obtain ⟨m, hmn, e1, e2, e3⟩ := hA.at_ κ
  refine ⟨m, hmn, by rw [h4 κ hw, e1], e2.imp id ?_, fun i hi hwi => ?_⟩
  ·rintro ⟨i, h5, h6, h7⟩; exact ⟨i, h5, .inl h6, h7⟩
  ·rintro (hL | rfl)
   ·exact e3 i hi hwi hL
   ·obtain ⟨gi, hgi, hki⟩ := hwi
    rw [hlg] at hgi; cases hgi
    exact hw hki
theorem Xqk {listed : Array Bool} {i j : Nat} (d : Bool) (hj : j < listed.size) : (listed.setIfInBounds j true).getD i d = if i = j then true else listed.getD i d := by
 by_cases h : i = j
 ·subst h; simp [Array.getD, hj]
 ·rw [getD_set_ne d (Ne.symm h), if_neg h]
theorem Xc3 {E : Env} (hE : EnvOk P E) {F : Fence} {n : Nat} (hF : Fw F) {ops : Array Oper} {s : Nat → St} {ls : List Log} (h : Lex E ops s ls) {Q : Exit → Act → World → Prop} : ∀ {fuel : Nat} {listed : Array Bool} {todo : List Nat}
  {w : World} {g : Gh} {ρ : St} {a : Act}, listed.size = ops.size → todo.length ≤ fuel → todo.Nodup → (∀ i, i < ops.size → (i ∈ todo ↔ listed.getD i false = false)) →
  (∀ k i, listed.getD k false = true → (nthD (befores ops.toList) k 0).testBit i = true → listed.getD i false = true) →
  Rel w g ρ a.tmps [] → Amid ops.size s ls (fun i => listed.getD i false = true) ρ → (∀ a' w', After E.pins w g ρ.mem a.defers (s ops.size) a' w' → Q .normal a' w') →
  wpAnyIn F n P .any ops Q fuel listed a w := by
 have O5 : ∀ {listed : Array Bool} {w : World} {g : Gh} {ρ : St} {a : Act}, listed.size = ops.size → Rel w g ρ a.tmps [] → Amid ops.size s ls (fun i => listed.getD i false = true) ρ →
   (∀ a' w', After E.pins w g ρ.mem a.defers (s ops.size) a' w' → Q .normal a' w') → Region.ready .any ops listed = [] → Q .normal a w := by
  intro listed w g ρ a hsz hr hA hQ hrd
  have hall : ∀ n, ∀ j, j < n → j < ops.size → listed.getD j false = true := by
   intro n
   induction n with
   | zero => intro j hj; omega
   | succ n ih =>
    intro j hj hjn
    cases hl : listed.getD j false with
    | true => rfl
    | false =>
     have hm : j ∈ Region.ready .any ops listed := by
      rw [mem_ready]
      have ho : ops[j]? = some ops[j] := Array.getElem?_eq_getElem hjn
      refine ⟨by rw [← hl]; simp [Array.getD, hsz, hjn], _, ho, fun e he hb => ?_⟩
      have hlt := h.back j _ ho e (by simpa using he) hb
      exact ih e.on (by omega) (by omega)
     rw [hrd] at hm; simp at hm
  have hlook : ∀ κ, look ρ κ = look (s ops.size) κ := by
   intro κ
   obtain ⟨m, hm, h1, _, h3⟩ := hA.at_ κ
   rw [h1]
   refine h.same hm (Nat.le_refl _) fun i hi1 hi2 hw => h3 i hi1 hw (hall (i + 1) i (by omega) hi2)
  exact hQ a w ⟨g, Xnq (by rw [hA.len, h.slen _ (Nat.le_refl _)]) hlook hr, Mv0.same _ _ _ (fun k => by
   have := hlook (2 * k + 1)
   rw [Oy, Oy] at this
   exact (Prod.mk.inj this).2.symm), Frm.refl _ _, rfl, Step.same fun k => by
   have := hlook (2 * k + 1)
   rw [Oy, Oy] at this
   exact (Prod.mk.inj this).2.symm⟩
 intro fuel
 induction fuel with
 | zero =>
  intro listed todo w g ρ a hsz hf hnd htd hcl hr hA hQ
  have htodo : todo = [] := List.length_eq_zero_iff.1 (by omega)
  subst htodo
  have hrd : Region.ready .any ops listed = [] := by
   cases hrr : Region.ready .any ops listed with
   | nil => rfl
   | cons j rs =>
    have hm : j ∈ Region.ready .any ops listed := by rw [hrr]; exact List.mem_cons_self
    rw [mem_ready] at hm
    obtain ⟨h1, o, ho, _⟩ := hm
    have hjn : j < ops.size := (Array.getElem?_eq_some_iff.1 ho).1
    have h2 : listed.getD j false = false := by rw [← h1]; simp [Array.getD, hsz, hjn]
    have := (htd j hjn).2 h2
    simp at this
  exact ⟨hrd, O5 hsz hr hA hQ hrd⟩
 | succ fuel ih =>
  intro listed todo w g ρ a hsz hf hnd htd hcl hr hA hQ
  refine ⟨fun hrd => O5 hsz hr hA hQ hrd, fun j hm => ?_⟩
  rw [mem_ready] at hm
  obtain ⟨h1, o, ho, hdir⟩ := hm
  have hjn : j < ops.size := (Array.getElem?_eq_some_iff.1 ho).1
  have h2 : listed.getD j false = false := by rw [← h1]; simp [Array.getD, hsz, hjn]
  have hcj : ∀ i, (nthD (befores ops.toList) j 0).testBit i = true → listed.getD i false = true := by
   intro i hi
   have := Lg [] ops.toList j o i (by simpa using ho) (by rw [List.length_nil, Nat.zero_add]; exact hi)
   obtain ⟨e, he, hb, h3⟩ := this
   have h4 := hdir e (by simpa using he) hb
   rcases h3 with rfl | h3
   ·exact h4
   ·exact hcl e.on i h4 h3
  obtain ⟨ρ', hrun, hA'⟩ := hA.next h hcl ho (by simp only [h2]; simp) hcj
  refine Ql hE hF ho hr hrun fun a1 w1 ha => ?_
  obtain ⟨g1, r1, m1, f1, d1, s1⟩ := ha.ex
  have hset : ∀ i, (listed.setIfInBounds j true).getD i false = if i = j then true else listed.getD i false := fun i => Xqk false (by omega)
  refine ih (todo := todo.erase j) (by simp [hsz]) ?_ (hnd.erase j) ?_ ?_ r1 ?_ fun a' w' ha' => hQ a' w' ?_
  ·have hj := (htd j hjn).2 h2
   rw [List.length_erase_of_mem hj]
   have : 0 < todo.length := List.length_pos_of_mem hj
   omega
  ·intro i hi
   rw [hset, hnd.mem_erase_iff, htd i hi]
   by_cases hij : i = j
   ·subst hij; simp
   ·simp [hij]
  ·intro k i hk hb
   rw [hset] at hk ⊢
   by_cases hkj : k = j
   ·subst hkj
    split
    ·rfl
    ·exact hcj i hb
   ·rw [if_neg hkj] at hk
    split
    ·rfl
    ·exact hcl k i hk hb
  ·refine ⟨hA'.len, fun κ => ?_⟩
   obtain ⟨m, e1, e2, e3, e4⟩ := hA'.at_ κ
   refine ⟨m, e1, e2, e3.imp id ?_, fun i hi hw hL => e4 i hi hw ?_⟩
   ·rintro ⟨i, h5, h6, h7⟩
    refine ⟨i, h5, ?_, h7⟩
    rw [hset]
    rcases h6 with h6 | h6
    ·split
     ·rfl
     ·exact h6
    ·rw [if_pos h6]
   ·rw [hset] at hL
    by_cases hij : i = j
    ·exact .inr hij
    ·rw [if_neg hij] at hL; exact .inl hL
  ·rw [d1] at ha'
   exact After.trans m1 f1 s1 ha'
theorem M5 {E : Env} (hE : EnvOk P E) {F : Fence} {n : Nat} (hF : Fw F) (hm : P.follows .mixedOrders = true) {id : Nat} {ops : Array Oper} (h : Rel w g σ a.tmps []) {β : Type} {r : β} {k : St → Option β}
  (hr : (V8 E ops ops.toList [] σ fun gs σ' => cond (Oz (befores ops.toList) 0 [] gs && Fb 0 ops.toList) (k σ') none) = some r) {Q : Exit → Act → World → Prop}
  (hQ : ∀ σ' a' w', k σ' = some r → After E.pins w g σ.mem a.defers σ' a' w' → Q .normal a' w') : (Code.region id ops true).wpIn F n P Q a w := by
 obtain ⟨s, ls, l1, l2, l3, hk⟩ := Vc hr
 simp only [List.nil_append] at hk
 cases hc : Oz (befores ops.toList) 0 [] ls && Fb 0 ops.toList with
 | false => rw [hc] at hk; simp at hk
 | true =>
  rw [hc] at hk
  simp only [cond_true] at hk
  simp only [Bool.and_eq_true] at hc
  have hL : Lex E ops s ls := ⟨by simpa using l1, fun j o hj => l3 j o (by simpa using hj), fun i j gi gj hij h1 h2 => Qu (dn := []) rfl hc.1 i j gi gj hij h1 h2 (Nat.zero_le _),
   fun j o hj e he hb => by have := Lj hc.2 (j := j) (by simpa using hj) e he hb; omega⟩
  refine wpIn_region_any hm (Xc3 hE hF hL (todo := List.range ops.size) (g := g) (ρ := σ) (by simp) (by simp) List.nodup_range (fun i hi => ?_) (fun k i hk => ?_) ?_ ?_ ?_)
  ·simp [hi]
  ·simp [Array.getD] at hk
  ·exact h.grow (fun _ _ => rfl) (Nat.le_refl _)
  ·refine ⟨by rw [l2], fun κ => ⟨0, Nat.zero_le _, by rw [l2], .inl rfl, fun i _ _ hL => ?_⟩⟩
   simp [Array.getD] at hL
  ·intro a' w' ha'
   refine hQ _ a' w' (by simpa using hk) ?_
   have hm0 : Mv0 E.pins w g σ.mem { w with drawn := w.drawn + 1 } g σ.mem := ⟨fun _ h => h, fun _ h => .inl h, fun _ h => .inl h, fun k a h => .inl ⟨k, h⟩, Nat.le_refl _, ⟨rfl, rfl, rfl⟩, fun s k _ => Pn.refl s g rfl⟩
   have hf0 : Frm w g { w with drawn := w.drawn + 1 } := fun b _ _ => .inl rfl
   exact After.trans hm0 hf0 (Step.world h (fun _ _ => rfl) (fun _ h => h) (fun _ _ h => h) rfl) ha'
end
end Go.Rf
end

section
set_option linter.unusedVariables false
set_option linter.unusedSimpArgs false
namespace Go.Rf
theorem N9 (mm : List (Nat × Ent)) (ks : List Nat) : ∀ (l : List Nat) (q : Nat), lk (Ta mm ks l) q = if B6 l q then (lk mm q).map (fun e => ⟨B9 ks mm e.c, 0, 0⟩) else none
 | [], q => rfl
 | k :: l, q => by
  simp only [Ta]
  by_cases hq : k = q
  ·subst hq
   have h1 : B6 (k :: l) k = true := by simp [B6]
   rw [if_pos h1]
   cases hk : lk mm k with
   | none =>
    simp only [Option.map_none]
    rw [N9 mm ks l k, hk]
    split <;> rfl
   | some e => simp [lk]
  ·have h1 : B6 (k :: l) q = B6 l q := by
    have : Nat.beq k q = false := Ls hq
    simp [B6, this]
   have hb : Nat.beq k q = false := Ls hq
   rw [h1, ← N9 mm ks l q]
   cases hk : lk mm k with
   | none => rfl
   | some e => simp [lk, hb]
theorem Tq (hk ks : List Nat) (mm : List (Nat × Ent)) : ∀ (i : Nat) (xs : List A) (t : Nat), nthD (Hg hk ks mm i xs) t (.one .d) = if B6 hk (i + t) ∧ t < xs.length then Xme ks mm (nthD xs t (.one .d)) else .one .d
 | i, [], t => by simp [Hg, nthD]
 | i, x :: xs, 0 => by
  simp only [Hg, nthD, Nat.add_zero, List.length_cons]
  cases B6 hk i <;> simp
 | i, x :: xs, t + 1 => by
  simp only [Hg, nthD, List.length_cons]
  rw [Tq hk ks mm (i + 1) xs t]
  rw [show i + 1 + t = i + (t + 1) by omega]
  simp
theorem S3 (hk ks : List Nat) (mm : List (Nat × Ent)) : ∀ (i : Nat) (xs : List A), (Hg hk ks mm i xs).length = xs.length
 | i, [] => rfl
 | i, x :: xs => by simp [Hg, S3 hk ks mm (i + 1) xs]
theorem Ph {ks : List Nat} : ∀ {n k : Nat}, Xfg ks k n = true → ∀ j, j < n → B6 ks (k + j) = true
 | 0, k, h, j, hj => by omega
 | n + 1, k, h, 0, hj => by simp only [Xfg, Bool.and_eq_true] at h; exact h.1
 | n + 1, k, h, j + 1, hj => by
  simp only [Xfg, Bool.and_eq_true] at h
  have := Ph h.2 j (by omega)
  rwa [show k + 1 + j = k + (j + 1) by omega] at this
section
variable {P : Program} {w : World} {g : Gh} {σ : St} {ts : Array Value} {tab : Tab} {γ : Type} {r : γ} {H : Hand} {a : Act}
def I5 (g : Gh) (ks : List Nat) : Gh := ⟨fun k => if B6 ks k then g.ad k else none, g.hv, fun k => if B6 ks k then g.bl k else [], g.S⟩
theorem Hq {ks : List Nat} {mm : List (Nat × Ent)} {c : Leaf} {z : Ty × Nat} (h : lstOf c = some z) : B9 ks mm c = c := by
 cases c <;> simp [lstOf] at h <;> rfl
theorem Mo {ks : List Nat} : ∀ {cs : List (Loc × Nat × Nat)} {i : Nat} {p : Loc} {n v0 : Nat}, E1 ks cs = true → cs[i]? = some (p, n, v0) → ∃ k, p = .cell k ∧ Xfg ks k n = true
 | [], i, p, n, v0, _, h => by simp at h
 | (.cell k, n', _) :: r, 0, p, n, v0, hk, h => by
  simp only [E1, Bool.and_eq_true] at hk
  simp only [List.getElem?_cons_zero, Option.some.injEq, Prod.mk.injEq] at h
  obtain ⟨rfl, rfl, rfl⟩ := h
  exact ⟨k, rfl, hk.1⟩
 | (.cell k, n', _) :: r, i + 1, p, n, v0, hk, h => by
  simp only [E1, Bool.and_eq_true] at hk
  exact Mo hk.2 (by simpa using h)
 | (.elem _ _ _, _, _) :: _, _, _, _, _, hk, _ => by simp [E1] at hk
theorem Sc {ks : List Nat} {mm : List (Nat × Ent)} {mem' : Mem} (hm' : ∀ q, mem' q = if B6 ks q then (lk mm q).map (fun e => ⟨B9 ks mm e.c, 0, 0⟩) else none)
  {x : Leaf} {y : Value} {bs : List Nat} (h : LfR w g (lk mm) x y bs) : LfR w (I5 g ks) mem' (B9 ks mm x) y bs := by
 cases x with
 | v z => exact h
 | s m t l => exact h
 | h m t l e => exact h
 | q m t l p => exact h
 | d => exact h
 | fn f cs =>
  obtain ⟨h0, ys, h1, h2, h3⟩ := h
  simp only [B9]
  cases hk : E1 ks cs with
  | false => exact h0
  | true =>
   refine ⟨h0, ys, h1, h2, fun i p n v0 z hc hz => ?_⟩
   obtain ⟨k, rfl, hk⟩ := Mo hk hc
   obtain ⟨b, o, h4, h5⟩ := h3 i _ n v0 z hc hz
   refine ⟨b, o, h4, fun j hj => ?_⟩
   simp only [I5]
   rw [if_pos (Ph hk j hj)]
   exact h5 j hj
 | it f t l n => exact h
 | a p v0 v1 wi =>
  obtain ⟨hb, hsl, e, he, _, _, hc⟩ := h
  simp only [B9]
  cases hk : B6 ks (Ib p) with
  | false => exact hb
  | true =>
   simp only [cond_true, he]
   cases hch : Ii p v0 v1 e with
   | false => exact hb
   | true =>
    obtain ⟨h1, t, q, hh, h2, h3, h4⟩ := hc hch
    have he' : mem' (Ib p) = some ⟨B9 ks mm e.c, 0, 0⟩ := by rw [hm', if_pos hk, he]; rfl
    refine ⟨hb, hsl, _, he', Nat.le_refl _, Nat.le_refl _, fun _ => ?_⟩
    cases p with
    | cell k =>
     simp only [Ib] at he he'
     simp only [leafAt, he, Option.map_some, Option.bind_some] at h2
     refine ⟨trivial, t, q, hh, ?_, h3, h4⟩
     simp only [leafAt, he', Option.map_some, Option.bind_some, Hq h2]
     exact h2
    | elem k i c =>
     simp only [Ib] at he he'
     obtain ⟨x, t', q', hx, hl, hi⟩ := h1
     rw [he] at hx; cases hx
     rw [Hq hl] at he'
     obtain ⟨ec, ev0, ev1⟩ := e
     refine ⟨⟨_, t', q', he', hl, hi⟩, t, q, hh, ?_, ?_, h4⟩
     ·cases ec with
      | s m t0 l =>
       simp only [leafAt, he] at h2
       simp only [leafAt, he']
       exact h2
      | _ => simp [leafAt, he] at h2
     ·cases ec with
      | s m t0 l =>
       simp only [hdrAt, he] at h3
       simp only [hdrAt, he', I5]
       rw [← h3]
       cases g.hv k with
       | slice ad len cap => cases ad <;> rfl
       | _ => rfl
      | _ => simp [leafAt, he] at h2
 | ptr p n v0 =>
  obtain ⟨hb, hp⟩ := h
  simp only [B9]
  cases hk : X0o ks p n with
  | false => exact hb
  | true =>
   simp only [cond_true]
   cases he : lk mm (Ib p) with
   | none => exact hb
   | some e =>
    simp only
    cases hch : Xxa p v0 e with
    | false => exact hb
    | true =>
     refine ⟨hb, ?_⟩
     cases p with
     | cell k =>
      obtain ⟨b, o, h1, h2⟩ := hp
      refine ⟨b, o, h1, fun j hj => ?_⟩
      simp only [I5]
      rw [if_pos (Ph hk j hj)]
      exact h2 j hj
     | elem k i c =>
      obtain ⟨h1, x, hx, h2, h3⟩ := hp
      simp only [Ib] at he
      rw [he] at hx; cases hx
      obtain ⟨t, q, a, len, cap, r1, r2, r3, r4, r5⟩ := h3 (Nat.eq_of_beq_eq_true hch)
      have hk' : B6 ks k = true := hk
      have he' : mem' k = some ⟨e.c, 0, 0⟩ := by rw [hm', if_pos hk', he, Option.map_some, Hq r1]
      exact ⟨h1, _, he', Nat.le_refl _, fun _ => ⟨t, q, a, len, cap, r1, r2, r3, r4, r5⟩⟩
theorem Rel.pruneK {pk : List (Bool × Nat)} (h : Rel w g σ ts []) (tks ks : List Nat) (hpk : ∀ s k, (s, k) ∈ pk → B6 ks k = true ∧ (s = true → ∀ e, σ.mem k = some e → e.v0 = 0)) :
  ∃ g', Rel w g' (Rf.pruneK tks ks σ) ts [] ∧ Mv0 pk w g σ.mem w g' (Rf.pruneK tks ks σ).mem := by
 have hm' : ∀ q, (Rf.pruneK tks ks σ).mem q = if B6 ks q then (lk σ.mm q).map (fun e => ⟨B9 ks σ.mm e.c, 0, 0⟩) else none := fun q => N9 _ _ _ _
 refine ⟨I5 g ks, ⟨?_, ?_, ?_, ?_, ?_, ?_, ?_, ?_, ?_, ?_, h.hnd, ?_, fun x hx => by cases hx⟩, fun _ h => h, ?_, fun _ h => .inl h, ?_, Nat.le_refl _, Io.refl _, fun s k hk e he => ?pin⟩
 case pin =>
  obtain ⟨h1, h2⟩ := hpk s k hk
  have he' : lk σ.mm k = some e := he
  refine ⟨⟨B9 ks σ.mm e.c, 0, 0⟩, by rw [hm', if_pos h1, he']; rfl, fun a ha => by simp only [I5]; rw [if_pos h1]; exact ha, fun hs => ?_⟩
  have h0 := h2 hs e he
  exact ⟨by rw [h0]; exact Nat.le_refl _, fun _ z hz => ⟨rfl, by simp only; rw [Hq hz]; exact hz⟩⟩
 ·intro k e he
  rw [hm'] at he
  split at he
  ·rename_i hk
   cases hz : lk σ.mm k with
   | none => rw [hz] at he; simp at he
   | some e0 =>
    rw [hz] at he
    simp only [Option.map_some, Option.some.injEq] at he
    subst he
    have := Sc hm' (h.mem k e0 hz)
    simp only [I5, hk, if_true]
    exact this
  ·simp at he
 ·intro k b o ha
  simp only [I5] at ha
  split at ha
  ·exact h.cell k b o ha
  ·simp at ha
 ·intro k k' a' h1 h2
  simp only [I5] at h1 h2
  split at h1
  ·split at h2
   ·exact h.inj k k' a' h1 h2
   ·simp at h2
  ·simp at h1
 ·intro k hk
  rw [hm'] at hk
  simp only [I5]
  split at hk
  ·rename_i hks
   have : σ.mem k = none := by
    cases hz : lk σ.mm k with
    | none => exact hz
    | some e => rw [hz] at hk; simp at hk
   rw [if_pos hks, if_pos hks]
   exact h.pres k this
  ·rename_i hks
   rw [if_neg hks, if_neg hks]
   exact ⟨rfl, rfl⟩
 ·intro t
  have ht : (Rf.pruneK tks ks σ).tmp t = if B6 tks (0 + t) ∧ t < σ.ts.length then Xme ks σ.mm (σ.tmp t) else .one .d := Tq _ _ _ _ _ _
  rw [ht]
  split
  ·have h1 := h.tmps t
   cases hx : σ.tmp t with
   | one x => rw [hx] at h1; exact Sc hm' (show LfR w g (lk σ.mm) x _ [] from h1)
   | agg xs =>
    rw [hx] at h1
    obtain ⟨us, e1, e2, e3⟩ := h1
    refine ⟨us, e1, by simp [e2], fun i x z hx' hz => ?_⟩
    simp only [List.getElem?_map] at hx'
    cases hxi : xs[i]? with
    | none => rw [hxi] at hx'; simp at hx'
    | some x0 =>
     rw [hxi] at hx'
     simp only [Option.map_some, Option.some.injEq] at hx'
     subst hx'
     exact Sc hm' (e3 i x0 z hxi hz)
   | tup xs => exact (rfl : ([] : List Nat) = [])
  ·exact (rfl : ([] : List Nat) = [])
 ·show (Hg _ _ _ _ _).length = _
  rw [S3]; exact h.len
 ·intro k; simp only [I5]; split
  ·exact h.nd k
  ·simp
 ·intro k k' hne b hb hb'
  simp only [I5] at hb hb'
  split at hb
  ·split at hb'
   ·exact h.dj k k' hne b hb hb'
   ·cases hb'
  ·cases hb
 ·intro k b o ha
  simp only [I5] at ha
  split at ha
  ·obtain ⟨h1, h2, h3⟩ := h.box k b o ha
   refine ⟨fun k' hb => ?_, h2, h3⟩
   simp only [I5] at hb
   split at hb
   ·exact h1 k' hb
   ·cases hb
  ·simp at ha
 ·intro b hb
  obtain ⟨h1, h2, h3⟩ := h.st b hb
  refine ⟨fun k hb => ?_, h2, h3⟩
  simp only [I5] at hb
  split at hb
  ·exact h1 k hb
  ·cases hb
 ·intro k b hb hb'; cases hb'
 ·rintro b (⟨k, hb⟩ | hb)
  ·simp only [I5] at hb
   split at hb
   ·exact .inl (.inl ⟨k, hb⟩)
   ·cases hb
  ·exact .inl (.inr hb)
 ·intro k a' ha
  simp only [I5] at ha
  split at ha
  ·exact .inl ⟨k, ha⟩
  ·simp at ha
theorem Xbu {l r : List Nat} {k : Nat} (h : B6 l k = true) : B6 (l ++ r) k = true := by
 induction l with
 | nil => simp [B6] at h
 | cons a l ih =>
  simp only [List.cons_append, B6] at h ⊢
  cases hb : Nat.beq a k with
  | true => rfl
  | false => rw [hb] at h; exact ih h
theorem Ew {h : Hint} {σ : St} : ∀ {pk : List (Bool × Nat)}, E2 pk h σ = true → ∀ s k, (s, k) ∈ pk → B6 (h.mh.map (·.1)) k = true ∧ (s = true → ∀ e, σ.mem k = some e → e.v0 = 0)
 | (s0, k0) :: r, hp, s, k, hk => by
  simp only [E2, Bool.and_eq_true] at hp
  rcases List.mem_cons.1 hk with he | hk
  ·obtain ⟨rfl, rfl⟩ := Prod.mk.inj he
   refine ⟨hp.1.1, fun hs e he => ?_⟩
   have := hp.1.2
   rw [show lk σ.mm k = some e from he, hs] at this
   simpa using this
  ·exact Ew hp.2 s k hk
 | [], _, s, k, hk => by cases hk
theorem Rel.prune {pk : List (Bool × Nat)} (h : Rel w g σ ts []) (hh : Hint) (hp : E2 pk hh σ = true) : ∃ g', Rel w g' (Rf.prune hh σ) ts [] ∧ Mv0 pk w g σ.mem w g' (Rf.prune hh σ).mem :=
 h.pruneK _ _ fun s k hk => ⟨Xbu (Ew hp s k hk).1, (Ew hp s k hk).2⟩
theorem Rel.prune0 {pk : List (Bool × Nat)} (h : Rel w g σ ts []) (hh : Hint) (hp : E2 pk hh σ = true) : ∃ g', Rel w g' (Rf.prune0 hh σ) ts [] ∧ Mv0 pk w g σ.mem w g' (Rf.prune0 hh σ).mem :=
 h.pruneK _ _ fun s k hk => ⟨Xbu (Ew hp s k hk).1, (Ew hp s k hk).2⟩
theorem Rel.setSame (h : Rel w g σ ts H) {t : Nat} {x : A} (hx : AR w g σ.mem x (ts.getD t undef)) : Rel w g (σ.setT t x) ts H := by
 have h1 := h.setT (t := t) hx
 have : ts.setIfInBounds t (ts.getD t undef) = ts := by
  apply Array.ext_getElem?
  intro i
  rw [Array.getElem?_setIfInBounds]
  split
  ·rename_i hi
   subst hi
   split
   ·rename_i hlt
    simp [Array.getD, hlt]
   ·rename_i hlt
    rw [Array.getElem?_eq_none (by omega)]
  ·rfl
 rw [this] at h1
 exact h1
theorem Mv.letGo (w : World) (g : Gh) (σ : St) (z : Leaf × Value × List Nat) : Mv w g σ [z] w g σ [] :=
 ⟨Step.refl _ _ _, fun b hb => .inl (hb.imp id fun hb => by cases hb), fun _ h => .inl h, fun _ _ h => .inl h, Nat.le_refl _, Io.refl _⟩
theorem Rel.reform {m n : Mode} {u : Ty} {l : List (den u)} {y : Value} {bs : List Nat} (h : Rel w g σ ts [(.s n u l, y, bs)]) (hf : L2 m n = true) (hm : m ≠ .rox) :
  ∃ g' bs', Rel w g' σ ts [(.s m u l, y, bs')] ∧ Mv w g σ [(.s n u l, y, bs)] w g' σ [(.s m u l, y, bs')] := by
 have hrd : Rd w g.S (.sl u) n l [y] bs := h.hand _ List.mem_cons_self
 have hnd : bs.Nodup := by have := h.hnd; simpa [Hand.bs] using this
 obtain ⟨bs', hs, hr⟩ := hrd.weaken hf hm hnd
 have e1 : Hand.bs [(Leaf.s n u l, y, bs)] = bs := by simp [Hand.bs]
 have e2 : Hand.bs [(Leaf.s m u l, y, bs')] = bs' := by simp [Hand.bs]
 have hsub : ∀ b ∈ Hand.bs [(Leaf.s m u l, y, bs')], b ∈ Hand.bs [(Leaf.s n u l, y, bs)] ∨ False := fun b hb => by rw [e1]; rw [e2] at hb; exact .inl (hs.subset hb)
 refine ⟨_, bs', h.rehand (fun _ => False) (fun _ hf => hf.elim) (fun _ hf => hf.elim) hsub (by rw [e2]; exact List.Nodup.sublist hs hnd) ?_, Mv.rehand h (fun _ => False) (fun _ hf => hf.elim) hsub (Mv.refl _ _ _ _)⟩
 intro x hx
 have hx := List.mem_singleton.1 hx
 subst hx
 refine Rd.imp (t := .sl u) (fun b hb => ?_) hr fun _ _ => rfl
 rw [e1, e2]
 exact hb.imp id fun hb => ⟨.inl hb.1, hb.2⟩
theorem Xhi {m : Mode} {u : Ty} {y : Value} {bs : List Nat} {x : Value} (h : Rel w g σ ts [(.v x, y, bs)]) (hx : x = .slice none 0 0) :
  Rel w g σ ts [(.s m u [], y, [])] ∧ Mv w g σ [(.v x, y, bs)] w g σ [(.s m u [], y, [])] := by
 obtain ⟨hy, hb⟩ := (show y = x ∧ bs = [] from h.hand _ List.mem_cons_self)
 subst hb
 refine ⟨(h.drop).push ?_, (Mv.letGo _ _ _ _).trans (Mv.push _ _ _ _ _ _)⟩
 rw [hy, hx]
 exact ⟨_, rfl, none, 0, rfl, Nat.le_refl _, fun _ => rfl, .inl ⟨.inl rfl, rfl, rfl, rfl⟩⟩
theorem T7 {m : Mode} {u : Ty} {l : List (den u)} {bs : List Nat} {t k : Nat} (h : Rel w g σ ts [(.s m u l, ts.getD t undef, bs)]) {K : Unit → St → Option γ}
  (hr : ((Rf.newRow k [.s m u l]).bind fun _ => .setT t (.one (.a (.cell k) 0 0 none)) (.ret ())).run tab σ K = some r) :
  ∃ g' σ', K () σ' = some r ∧ Rel w g' σ' ts [] ∧ Mv w g σ [(.s m u l, ts.getD t undef, bs)] w g' σ' [] := by
 simp only [run_bind, Rf.newRow, Pg.run] at hr
 cases he : σ.mem k with
 | some e => rw [he] at hr; simp [Pg.run] at hr
 | none =>
  rw [he] at hr
  simp only [Pg.run] at hr
  have hrd : Rd w g.S (.sl u) m l [ts.getD t undef] bs := h.hand _ List.mem_cons_self
  obtain ⟨ad, c, hy⟩ := Br hrd
  have h2 := h.root he
  have m3 : Mv w g σ [(.s m u l, ts.getD t undef, bs)] w { g with hv := Bu g.hv k (ts.getD t undef), bl := Bu g.bl k bs } (σ.setM k ⟨.s m u l, 0, 0⟩) [] := by
   refine ⟨Step.fresh he (fun _ h => h) (fun _ _ h => h) (fun q hq => Ax _ _ hq), ?_, fun _ h => .inl h, fun _ _ h => .inl h, Nat.le_refl _, Io.refl _⟩
   intro b hb
   left
   rcases hb with ⟨q, hq⟩ | hb
   ·by_cases hqk : q = k
    ·subst hqk; simp only [Ac] at hq; exact .inr (by simpa [Hand.bs] using hq)
    ·simp only [Ax _ _ hqk] at hq; exact .inl ⟨q, hq⟩
   ·cases hb
  exact ⟨_, _, hr, h2.setSame (Rel.rootAlias ⟨ad, _, c, hy⟩), m3.trans (Mv.setT _ _ _ _ _ _)⟩
theorem Xkl (h : Rel w g σ ts []) {κ : Nat × TK} {K : Unit → St → Option γ} (hr : (Xba κ).run tab σ K = some r) : ∃ g' σ', K () σ' = some r ∧ Rel w g' σ' ts [] ∧ Mv w g σ [] w g' σ' [] := by
 obtain ⟨t, tk⟩ := κ
 cases tk with
 | plain => exact ⟨g, σ, hr, h, Mv.refl _ _ _ _⟩
 | ro e =>
  simp only [Xba, Pg.run] at hr
  have ht := h.tmps t
  split at hr
  ·rename_i x hx
   rw [hx] at ht
   rw [run_bind] at hr
   obtain ⟨x', bs, g1, σ1, k1, h1, m1⟩ := Ca h ht hr
   clear hr
   split at k1
   ·obtain ⟨h2, m2⟩ := Xhi (m := .ro) (u := e) h1 rfl
    simp only [Pg.run] at k1
    have hz : Rd w g1.S (.sl e) .ro [] [ts.getD t undef] [] := h2.hand _ List.mem_cons_self
    exact ⟨g1, _, k1, (h2.drop).setSame hz, ((m1.trans m2).trans (Mv.letGo _ _ _ _)).trans (Mv.setT _ _ _ _ _ _)⟩
   ·rename_i m u l
    split at k1
    ·rename_i hu
     subst hu
     simp only [Pg.run] at k1
     obtain ⟨g2, bs', h2, m2⟩ := h1.reform (m := .ro) (by cases m <;> rfl) (by simp)
     have hz : Rd w g2.S (.sl u) .ro l [ts.getD t undef] bs' := h2.hand _ List.mem_cons_self
     have hb := C4 hz rfl
     subst hb
     exact ⟨g2, _, k1, (h2.drop).setSame hz, ((m1.trans m2).trans (Mv.letGo _ _ _ _)).trans (Mv.setT _ _ _ _ _ _)⟩
    ·simp [Pg.run] at k1
   ·simp [Pg.run] at k1
  ·simp [Pg.run] at hr
 | own m e co =>
  simp only [Xba, Pg.run] at hr
  have ht := h.tmps t
  split at hr
  ·rename_i x hx
   rw [hx] at ht
   cases hat : Xq3 t x with
   | true =>
   rw [hat, cond_true] at hr
   exact ⟨g, σ, hr, h, Mv.refl _ _ _ _⟩
   | false =>
   rw [hat, cond_false] at hr
   rw [run_bind] at hr
   obtain ⟨x', bs, g1, σ1, k1, h1, m1⟩ := Ca h ht hr
   clear hr
   split at k1
   ·obtain ⟨h2, m2⟩ := Xhi (m := m) (u := e) h1 rfl
    obtain ⟨g3, σ3, k2, h3, m3⟩ := T7 h2 k1
    exact ⟨g3, σ3, k2, h3, (m1.trans m2).trans m3⟩
   ·rename_i n u l
    cases hf : m.isOwn && L2 m n with
    | false => rw [hf] at k1; simp [Pg.run] at k1
    | true =>
     rw [hf] at k1
     simp only [Bool.and_eq_true] at hf
     simp only [cond_true] at k1
     split at k1
     ·rename_i hu
      subst hu
      obtain ⟨g2, bs', h2, m2⟩ := h1.reform hf.2 (Hy hf.1)
      obtain ⟨g3, σ3, k2, h3, m3⟩ := T7 h2 k1
      exact ⟨g3, σ3, k2, h3, (m1.trans m2).trans m3⟩
     ·simp [Pg.run] at k1
   ·simp [Pg.run] at k1
  ·simp [Pg.run] at hr
theorem Xjr (h : Rel w g σ ts []) {κ : Nat × TK} {K : Unit → St → Option γ} (hr : (Xly κ).run tab σ K = some r) : ∃ g' σ', K () σ' = some r ∧ Rel w g' σ' ts [] ∧ Mv w g σ [] w g' σ' [] := by
 obtain ⟨t, tk⟩ := κ
 cases tk with
 | plain => exact ⟨g, σ, hr, h, Mv.refl _ _ _ _⟩
 | ro e => exact ⟨g, σ, hr, h, Mv.refl _ _ _ _⟩
 | own m e co =>
  simp only [Xly, Pg.run] at hr
  have ht := h.tmps t
  split at hr
  ·rename_i k v0 v1 wi hx
   rw [hx] at ht
   cases hat : Nat.beq k (G3 * t + 900) with
   | false =>
    rw [hat, cond_false] at hr
    exact ⟨g, σ, hr, h, Mv.refl _ _ _ _⟩
   | true =>
   rw [hat, cond_true] at hr
   rw [run_bind] at hr
   obtain ⟨x', bs, g1, σ1, k1, h1, m1⟩ := Ca h (show LfR w g σ.mem (.a (.cell k) v0 v1 (some wi)) (ts.getD t undef) [] from ht) hr
   clear hr
   split at k1
   ·rename_i n u l
    cases hf : m.isOwn && L2 m n with
    | false => rw [hf] at k1; simp [Pg.run] at k1
    | true =>
     rw [hf] at k1
     simp only [Bool.and_eq_true] at hf
     simp only [cond_true] at k1
     split at k1
     ·rename_i hu
      subst hu
      obtain ⟨g2, bs', h2, m2⟩ := h1.reform hf.2 (Hy hf.1)
      obtain ⟨g3, σ3, k2, h3, m3⟩ := T7 h2 k1
      exact ⟨g3, σ3, k2, h3, (m1.trans m2).trans m3⟩
     ·simp [Pg.run] at k1
   ·simp [Pg.run] at k1
  ·exact ⟨g, σ, hr, h, Mv.refl _ _ _ _⟩
theorem Xj1 (h : Rel w g σ ts []) {κ : Nat × TK} {K : Unit → St → Option γ} (hr : (Xih κ).run tab σ K = some r) : ∃ g' σ', K () σ' = some r ∧ Rel w g' σ' ts [] ∧ Mv w g σ [] w g' σ' [] := by
 unfold Xih at hr
 split at hr
 ·rename_i t m e c co
  rw [run_bind] at hr
  obtain ⟨x, hx, hr1⟩ := A2 hr
  clear hr
  obtain ⟨ec, ev0, ev1⟩ := x
  split at hr1
  ·rename_i u l hcc
   simp only at hcc
   subst hcc
   simp only [Pg.run] at hr1
   obtain ⟨h1, m1⟩ := h.toQ hx
   exact ⟨g, _, hr1, h1, m1⟩
  ·exact ⟨g, σ, hr1, h, Mv.refl _ _ _ _⟩
 ·exact ⟨g, σ, hr, h, Mv.refl _ _ _ _⟩
theorem Xk3 {hh : Hint} {K : Unit → St → Option γ} (h : Rel w g σ ts []) (hr : (Xr3 hh).run tab σ K = some r) : ∃ g' σ', K () σ' = some r ∧ Rel w g' σ' ts [] ∧ Mv w g σ [] w g' σ' [] := by
 unfold Xr3 at hr
 rw [run_bind] at hr
 have h1 : ∀ {l : List (Nat × TK)} {g : Gh} {σ : St} {K : Unit → St → Option γ}, Rel w g σ ts [] → (Pg.eachL Xba l).run tab σ K = some r → ∃ g' σ', K () σ' = some r ∧ Rel w g' σ' ts [] ∧ Mv w g σ [] w g' σ' [] := by
  intro l
  induction l with
  | nil => intro g σ K h hr; exact ⟨g, σ, hr, h, Mv.refl _ _ _ _⟩
  | cons κ l ih =>
   intro g σ K h hr
   simp only [Pg.eachL, run_bind] at hr
   obtain ⟨g1, σ1, hr, h1, m1⟩ := Xkl h hr
   obtain ⟨g2, σ2, hr, h2, m2⟩ := ih h1 hr
   exact ⟨g2, σ2, hr, h2, m1.trans m2⟩
 have h1q : ∀ {l : List (Nat × TK)} {g : Gh} {σ : St} {K : Unit → St → Option γ}, Rel w g σ ts [] → (Pg.eachL Xih l).run tab σ K = some r → ∃ g' σ', K () σ' = some r ∧ Rel w g' σ' ts [] ∧ Mv w g σ [] w g' σ' [] := by
  intro l
  induction l with
  | nil => intro g σ K h hr; exact ⟨g, σ, hr, h, Mv.refl _ _ _ _⟩
  | cons κ l ih =>
   intro g σ K h hr
   simp only [Pg.eachL, run_bind] at hr
   obtain ⟨g1, σ1, hr, h1, m1⟩ := Xj1 h hr
   obtain ⟨g2, σ2, hr, h2, m2⟩ := ih h1 hr
   exact ⟨g2, σ2, hr, h2, m1.trans m2⟩
 have h2 : ∀ {l : List (Nat × TK)} {g : Gh} {σ : St} {K : Unit → St → Option γ}, Rel w g σ ts [] → (Pg.eachL Xtp l).run tab σ K = some r → ∃ g' σ', K () σ' = some r ∧ Rel w g' σ' ts [] ∧ Mv w g σ [] w g' σ' [] := by
  intro l
  induction l with
  | nil => intro g σ K h hr; exact ⟨g, σ, hr, h, Mv.refl _ _ _ _⟩
  | cons κ l ih =>
   intro g σ K h hr
   simp only [Pg.eachL, run_bind] at hr
   unfold Xtp at hr
   split at hr
   ·exact ih h hr
   ·exact ih h hr
 obtain ⟨g1, σ1, hr, r1, m1⟩ := h1 h hr
 rw [run_bind] at hr
 obtain ⟨g2, σ2, hr, r2, m2⟩ := h1q r1 hr
 obtain ⟨g3, σ3, hr, r3, m3⟩ := h2 r2 hr
 exact ⟨g3, σ3, hr, r3, (m1.trans m2).trans m3⟩
theorem Vy {E : Env} {i : Nat} {K : St → Option γ} (h : Rel w g σ ts []) (hr : Xg0 E i σ K = some r) : ∃ g' σ', K σ' = some r ∧ Rel w g' σ' ts [] ∧ Mv0 E.pins w g σ.mem w g' σ'.mem := by
 unfold Xg0 at hr
 obtain ⟨g1, σ1, hr, h1, m1⟩ := Xk3 h hr
 cases hp1 : E2 E.pins (E.hint i) σ1 with
 | false => rw [hp1] at hr; simp at hr
 | true =>
  rw [hp1, cond_true] at hr
  obtain ⟨g2, h2, m2⟩ := h1.prune (E.hint i) hp1
  exact ⟨g2, _, hr, h2, m1.mv0.trans m2⟩
theorem Kc {E : Env} {i : Nat} {K : St → Option γ} (h : Rel w g σ ts []) (hr : Fp E i σ K = some r) : ∃ g' σ', K σ' = some r ∧ Rel w g' σ' ts [] ∧ Mv0 E.pins w g σ.mem w g' σ'.mem := by
 unfold Fp at hr
 cases hp : E2 E.pins (E.hint i) σ with
 | false => rw [hp] at hr; simp at hr
 | true =>
  rw [hp, cond_true] at hr
  obtain ⟨ga, σa, hr, ha, ma⟩ := Dk (fun a _ _ _ h hr => Xcc h hr) _ h hr
  cases hpa : E2 E.pins (E.hint i) σa with
  | false => rw [hpa] at hr; simp at hr
  | true =>
  rw [hpa, cond_true] at hr
  obtain ⟨g0, h0, m0⟩ := ha.prune0 (E.hint i) hpa
  cases hw : Mt (prune0 (E.hint i) σa) (E.hint i).tk with
  | false =>
   rw [hw, cond_false] at hr
   obtain ⟨g2, σ2, hr, h2, m2⟩ := Vy h0 hr
   exact ⟨g2, σ2, hr, h2, (ma.mv0.trans m0).trans m2⟩
  | true =>
   rw [hw, cond_true] at hr
   obtain ⟨gb, σb, hr, hb, mb⟩ := Dk (fun a _ _ _ h hr => Xjr h hr) _ h0 hr
   cases hpb : E2 E.pins (E.hint i) σb with
   | false => rw [hpb] at hr; simp at hr
   | true =>
    rw [hpb, cond_true] at hr
    obtain ⟨gc, hc, mc⟩ := hb.prune0 (E.hint i) hpb
    obtain ⟨g2, σ2, hr, h2, m2⟩ := Vy hc hr
    exact ⟨g2, σ2, hr, h2, (((ma.mv0.trans m0).trans mb.mv0).trans mc).trans m2⟩
end
end Go.Rf
end

section
set_option linter.unusedVariables false
set_option linter.unusedSimpArgs false
namespace Go.Rf
open Go.RowKit
def Ex.of : Ex → Exit
 | .normal => .normal
 | .exit id => .exit id
 | .ret => .ret
theorem Zp {p : Nat → Prop} (h : ∃ n, p n) : ∃ n, p n ∧ ∀ m, p m → n ≤ m := by
 obtain ⟨n, hn⟩ := h
 induction n using Nat.strongRecOn with
 | _ n ih =>
  by_cases hm : ∃ m, m < n ∧ p m
  ·obtain ⟨m, h1, h2⟩ := hm
   exact ih m h1 h2
  ·refine ⟨n, hn, fun m hm' => ?_⟩
   by_cases h : n ≤ m
   ·exact h
   ·exact absurd ⟨m, by omega, hm'⟩ hm
def NotM (g : Gh) (b : Nat) : Prop := (∀ k, b ∉ g.bl k) ∧ (∀ k o, g.ad k ≠ some (b, o)) ∧ ¬ g.S b
def X3p (D : Nat) : Deferred := { target := .collected D, args := #[] }
def Mks (B : Nat) (g : Gh) (w : World) (ds ds' : List Deferred) : Prop :=
 ∃ Ds : List Nat, ds' = Ds.map X3p ++ ds ∧ Ds.Nodup ∧ ∀ D ∈ Ds, B ≤ D ∧ w.heap[D]? = some (.deferred (some [])) ∧ NotM g D
theorem Mks.nil {B : Nat} {g : Gh} {w : World} {ds ds' : List Deferred} (h : ds' = ds) : Mks B g w ds ds' := ⟨[], by simp [h], List.nodup_nil, by simp⟩
theorem NotM.step {pk : List (Bool × Nat)} {w w' : World} {g g' : Gh} {mem mem' : Mem} {b : Nat} (hm : Mv0 pk w g mem w' g' mem') (hb : b < w.heap.size) (h : NotM g b) : NotM g' b := by
 have ho : ¬ Own g [] b := by
  rintro (⟨k, hk⟩ | hk)
  ·exact h.1 k hk
  ·cases hk
 refine ⟨fun k hk => ?_, fun k o hk => ?_, fun hS => ?_⟩
 ·rcases hm.own b (.inl ⟨k, hk⟩) with h1 | h1
  ·exact ho h1
  ·omega
 ·rcases hm.ad k _ hk with ⟨k', h1⟩ | h1
  ·exact h.2.1 k' o h1
  ·simp only at h1; omega
 ·rcases hm.S b hS with h1 | h1 | h1
  ·exact h.2.2 h1
  ·exact ho h1
  ·omega
theorem NotM.same {w w' : World} {g : Gh} {b : Nat} (h : NotM g b) (hf : Frm w g w') (hb : b < w.heap.size) : w'.heap[b]? = w.heap[b]? := by
 refine (hf b hb ?_).eq fun o ⟨k, hk⟩ => h.2.1 k o hk
 rintro (⟨k, hk⟩ | hk)
 ·exact h.1 k hk
 ·cases hk
theorem Cz {w : World} {b : Nat} {o : Obj} (h : w.heap[b]? = some o) : b < w.heap.size := (Array.getElem?_eq_some_iff.1 h).1
theorem Mks.trans {pk : List (Bool × Nat)} {B : Nat} {w w' : World} {g g' : Gh} {mem mem' : Mem} {ds ds1 ds2 : List Deferred} (h : Mks B g w ds ds1) (hB : B ≤ w.heap.size) (hm : Mv0 pk w g mem w' g' mem') (hf : Frm w g w') (h' : Mks w.heap.size g' w' ds1 ds2) : Mks B g' w' ds ds2 := by
 obtain ⟨D1, rfl, n1, p1⟩ := h
 obtain ⟨D2, rfl, n2, p2⟩ := h'
 refine ⟨D2 ++ D1, by simp, List.nodup_append.2 ⟨n2, n1, fun a ha b hb he => ?_⟩, fun D hD => ?_⟩
 ·subst he
  have h1 := (p2 a ha).1
  have h2 := Cz (p1 a hb).2.1
  omega
 ·rcases List.mem_append.1 hD with hD | hD
  ·obtain ⟨q1, q2, q3⟩ := p2 D hD
   exact ⟨by omega, q2, q3⟩
  ·obtain ⟨q1, q2, q3⟩ := p1 D hD
   exact ⟨q1, (q3.same hf (Cz q2)).trans q2, q3.step hm (Cz q2)⟩
structure AfterM (s : Bool) (pk : List (Bool × Nat)) (w : World) (g : Gh) (mem : Mem) (ds : List Deferred) (σ' : St) (a' : Act) (w' : World) : Prop where
 ex : ∃ g', Rel w' g' σ' a'.tmps [] ∧ Mv0 pk w g mem w' g' σ'.mem ∧ Frm w g w' ∧ Mks w.heap.size g' w' ds a'.defers ∧ (s = true → Step w g mem w' g' σ'.mem)
theorem After.m {s : Bool} {pk : List (Bool × Nat)} {w w' : World} {g : Gh} {mem : Mem} {ds : List Deferred} {σ' : St} {a' : Act} (h : After pk w g mem ds σ' a' w') : AfterM s pk w g mem ds σ' a' w' := by
 obtain ⟨g', h1, h2, h3, h4, h5⟩ := h.ex
 exact ⟨g', h1, h2, h3, Mks.nil h4, fun _ => h5⟩
theorem AfterM.trans {s : Bool} {pk : List (Bool × Nat)} {w w1 w2 : World} {g g1 : Gh} {mem m1 : Mem} {ds ds1 : List Deferred} {σ2 : St} {a2 : Act} (hm : Mv0 pk w g mem w1 g1 m1) (hf : Frm w g w1) (hk : Mks w.heap.size g1 w1 ds ds1) (hs : s = true → Step w g mem w1 g1 m1)
  (h : AfterM s pk w1 g1 m1 ds1 σ2 a2 w2) : AfterM s pk w g mem ds σ2 a2 w2 := by
 obtain ⟨g2, h1, h2, h3, h4, h5⟩ := h.ex
 exact ⟨g2, h1, hm.trans h2, hf.trans0 h3 hm, hk.trans hm.sz h2 h3 h4, fun e => (hs e).trans (h5 e)⟩
theorem Rel.change {w w' : World} {g : Gh} {σ : St} {ts : Array Value} (h : Rel w g σ ts []) (hw : ∀ b, (g.S b ∨ (∃ k, b ∈ g.bl k) ∨ ∃ k o, g.ad k = some (b, o)) → w'.heap[b]? = w.heap[b]?) (hsz : w.heap.size ≤ w'.heap.size) : Rel w' g σ ts [] := by
 have hS : ∀ b, (g.S b ∨ ∃ k, b ∈ g.bl k) → w'.heap[b]? = w.heap[b]? := fun b hb => hw b (hb.imp id .inl)
 have hst := Step.world (g' := g) h hS (fun _ h => h) (fun _ _ h => h) rfl
 refine ⟨fun k e he => (h.mem k e he).step hst fun b hb => hS b (hb.imp id fun h => ⟨k, h⟩), ?_, h.inj, h.pres, fun t => (h.tmps t).step hst fun b hb => hS b (.inl hb), h.len, h.nd, h.dj, h.box,
  fun b hb => ⟨(h.st b hb).1, (h.st b hb).2.1, Nat.lt_of_lt_of_le (h.st b hb).2.2 hsz⟩, h.hnd, h.hdj, fun x hx => by cases hx⟩
 intro k b o ha
 obtain ⟨h1, h2⟩ := h.cell k b o ha
 have := hw b (.inr (.inr ⟨k, o, ha⟩))
 exact ⟨(A4 this).trans h1, h2.same this⟩
theorem Jf (w : World) (r : Nat) (o : Obj) : (w.putObj r o).heap.size = w.heap.size := by simp [World.putObj]
theorem Rel.put {w : World} {g : Gh} {σ : St} {ts : Array Value} (h : Rel w g σ ts []) {L : Nat} (hL : NotM g L) (o : Obj) : Rel (w.putObj L o) g σ ts [] := by
 refine h.change (fun b hb => World.putObj_heap_other fun he => ?_) (by rw [Jf]; exact Nat.le_refl _)
 subst he
 rcases hb with hb | ⟨k, hb⟩ | ⟨k, o, hb⟩
 ·exact hL.2.2 hb
 ·exact hL.1 k hb
 ·exact hL.2.1 k o hb
theorem Mv0.put {pk : List (Bool × Nat)} {w w' : World} {g g' : Gh} {mem mem' : Mem} (h : Mv0 pk w g mem w' g' mem') (L : Nat) (o : Obj) : Mv0 pk w g mem (w'.putObj L o) g' mem' :=
 ⟨h.st, h.own, h.S, h.ad, by rw [Jf]; exact h.sz, ⟨h.io.os, h.io.tape, h.io.output⟩, h.pin⟩
theorem Frm.put {w w' : World} {g : Gh} (h : Frm w g w') {L : Nat} (hL : w.heap.size ≤ L) (o : Obj) : Frm w g (w'.putObj L o) := fun b hb hn => by
 rw [World.putObj_heap_other (show b ≠ L by omega)]
 exact h b hb hn
def Sb : List Nat → World → World
 | [], w => w
 | D :: Ds, w => Sb Ds (w.putObj D (.deferred none))
theorem My {P : Program} {F : Fence} {n : Nat} {fn : Func} {tmps : Array Value} {R : Ending → World → Prop} : ∀ (Ds : List Nat) (w : World), Ds.Nodup → (∀ D ∈ Ds, w.heap[D]? = some (.deferred (some []))) →
  (∃ v, (results fn tmps).run P (Sb Ds w) = .ok v (Sb Ds w) ∧ R (.returned v) (Sb Ds w)) → LeavesInM F n P fn tmps R (Ds.map X3p) .returning w
 | [], w, _, _, h => h
 | D :: Ds, w, hn, hd, h => by
  obtain ⟨n1, n2⟩ := List.nodup_cons.1 hn
  refine ⟨by simp, .inl ⟨D, w.putObj D (.deferred none), rfl, run_takeDeferred (hd D List.mem_cons_self), My Ds _ n2 (fun D' hD' => ?_) h⟩⟩
  exact (World.putObj_heap_other (fun he => n1 (by rw [← he]; exact hD'))).trans (hd D' (List.mem_cons_of_mem _ hD'))
theorem Xh7 {pk : List (Bool × Nat)} {w0 w : World} {g0 g : Gh} {mem0 : Mem} {σ : St} {ts : Array Value} : ∀ (Ds : List Nat) (w : World), (∀ D ∈ Ds, w0.heap.size ≤ D ∧ NotM g D) → Rel w g σ ts [] → Mv0 pk w0 g0 mem0 w g σ.mem → Frm w0 g0 w →
  Rel (Sb Ds w) g σ ts [] ∧ Mv0 pk w0 g0 mem0 (Sb Ds w) g σ.mem ∧ Frm w0 g0 (Sb Ds w)
 | [], w, _, h1, h2, h3 => ⟨h1, h2, h3⟩
 | D :: Ds, w, hd, h1, h2, h3 => by
  obtain ⟨q1, q2⟩ := hd D List.mem_cons_self
  exact Xh7 (w := w) Ds _ (fun D' hD' => hd D' (List.mem_cons_of_mem _ hD')) (h1.put q2 _) (h2.put _ _) (h3.put q1 _)
section
variable {P : Program} {E : Env} {F : Fence} {n : Nat}
theorem Xdl (hE : EnvOk P E) {c : Code} {i : Nat} {β : Type} {r : β} {k : Ex → St → Option β} {ds : List Deferred} {w0 : World} {g0 : Gh} {mem0 : Mem} {Q : Exit → Act → World → Prop}
  (hbody : ∀ {w : World} {g : Gh} {σ : St} {a : Act} {k' : Ex → St → Option β}, Bl E c i σ k' = some r → Rel w g σ a.tmps [] →
   ∀ Q' : Exit → Act → World → Prop, (∀ e σ' a' w', k' e σ' = some r → AfterM false E.pins w g σ.mem a.defers σ' a' w' → Q' e.of a' w') → c.wpIn F n P Q' a w)
  (hQ : ∀ e σ' a' w', e ≠ .normal → k e σ' = some r → AfterM false E.pins w0 g0 mem0 ds σ' a' w' → Q e.of a' w')
  {n0 : Nat} {σ : St} {a : Act} {w : World} (hr : Sx (Fp E i) (fun σ' k' => Bl E c i σ' k') k n0 σ = some r) (ha : AfterM false E.pins w0 g0 mem0 ds σ a w) : (Code.loop c).wpIn F n P Q a w := by
 let J : Nat → Act → World → Prop := fun n a w => ∃ σ, Sx (Fp E i) (fun σ' k' => Bl E c i σ' k') k n σ = some r ∧ AfterM false E.pins w0 g0 mem0 ds σ a w
 let I : Act → World → Prop := fun a w => ∃ n, J n a w
 have hmu : ∀ a w, ∃ n, I a w → (J n a w ∧ ∀ m, J m a w → n ≤ m) := by
  intro a w
  by_cases h : I a w
  ·obtain ⟨n, h1, h2⟩ := Zp h
   exact ⟨n, fun _ => ⟨h1, h2⟩⟩
  ·exact ⟨0, fun h' => absurd h' h⟩
 let μ : Act → World → Nat := fun a w => Classical.choose (hmu a w)
 have hμ : ∀ a w, I a w → (J (μ a w) a w ∧ ∀ m, J m a w → μ a w ≤ m) := fun a w => Classical.choose_spec (hmu a w)
 refine wpIn_loop I μ ⟨n0, σ, hr, ha⟩ ?_
 intro a w hI
 obtain ⟨⟨σ, hr, ha⟩, hmin⟩ := hμ a w hI
 cases hn : μ a w with
 | zero => rw [hn] at hr; simp [Sx] at hr
 | succ m =>
  rw [hn] at hr
  simp only [Sx] at hr
  obtain ⟨g, h1, m1, f1, d1, _⟩ := ha.ex
  refine hbody hr h1 _ fun e σ' a' w' hk ha' => ?_
  have ha2 : AfterM false E.pins w0 g0 mem0 ds σ' a' w' := AfterM.trans m1 f1 d1 (fun e => by cases e) ha'
  cases e with
  | normal =>
   simp only at hk
   obtain ⟨g', h2, m2, f2, d2, _⟩ := ha2.ex
   obtain ⟨g3, σ3, hr3, h3, m3⟩ := Kc h2 hk
   have hJ : J m a' w' := ⟨σ3, hr3, g3, h3, m2.trans m3, f2, ?_, fun e => by cases e⟩
   ·have hI' : I a' w' := ⟨m, hJ⟩
    exact ⟨hI', Nat.lt_succ_of_le ((hμ a' w' hI').2 m hJ)⟩
   ·exact d2.trans m2.sz m3 (Frm.refl _ _) (Mks.nil rfl)
  | exit id => exact hQ (.exit id) σ' a' w' (by simp) hk ha2
  | ret => exact hQ .ret σ' a' w' (by simp) hk ha2
theorem Xjm {α : Type} (N : Nat) (l : List α) (j : Nat) : Rf.win (some (j * N, j * N + min N (l.length - j * N))) l = Qq N l j := by
 simp only [Rf.win, Qq]
 rw [List.drop_take, Nat.add_sub_cancel_left]
 by_cases h : N ≤ l.length - j * N
 ·rw [Nat.min_eq_left h]
 ·rw [Nat.min_eq_right (by omega), List.take_of_length_le (by rw [List.length_drop]; omega), List.take_of_length_le (by rw [List.length_drop]; omega)]
theorem Xb8 {α : Type} {N : Nat} (hN : 1 ≤ N) (l : List α) (j : Nat) (h : j * N < l.length) : (B8 N l).drop j = Qq N l j :: (B8 N l).drop (j + 1) := by
 have hj : j < (l.length + N - 1) / N := by
  rw [Nat.lt_div_iff_mul_lt (by omega)]
  have : N * j = j * N := Nat.mul_comm _ _
  omega
 have hlen : (B8 N l).length = (l.length + N - 1) / N := by simp [B8]
 rw [List.drop_eq_getElem_cons (by rw [hlen]; exact hj)]
 simp [B8]
theorem Xgf {α : Type} (N : Nat) (l : List α) : (B8 N l).drop ((l.length + N - 1) / N) = [] := by
 apply List.drop_of_length_le
 simp [B8]
theorem Xto {w : World} {S : Nat → Prop} {u : Ty} {l : List (den u)} {ad : Option Addr} {cap N j : Nat} (h : Rd w S (.sl u) .ro l [.slice ad l.length cap] []) (hj : j * N ≤ l.length) :
  Rd w S (.sl u) .ro (Qq N l j) [.slice (ad.map (·.add (j * N * wd u))) (min N (l.length - j * N)) (min N (l.length - j * N))] [] := by
 obtain ⟨y, hy, hs⟩ := h
 simp only [List.cons.injEq, and_true] at hy
 subst hy
 obtain ⟨ad', c', e1, e2, _⟩ := id hs
 simp only [Value.slice.injEq, true_and] at e1
 obtain ⟨rfl, rfl⟩ := e1
 obtain ⟨bs', hsub, hs'⟩ := hs.win (wi := some (j * N, j * N + min N (l.length - j * N))) (y := .slice (ad.map (·.add (j * N * wd u))) (min N (l.length - j * N)) (min N (l.length - j * N))) (by simp)
  ⟨ad, cap, j * N, min N (l.length - j * N), rfl, by omega, by omega, by rw [Nat.add_sub_cancel_left], by omega, by omega, .inl rfl⟩
 have : bs' = [] := List.sublist_nil.1 hsub
 subst this
 rw [Xjm] at hs'
 exact ⟨_, rfl, hs'⟩
theorem Xb7 (hE : EnvOk P E) {f : Operand} {ps : Array Tmp} {p : Tmp} (hps : ps = #[p]) {x y : Code} {i : Nat} {β : Type} {r : β} {k : Ex → St → Option β} {w : World} {g : Gh} {σ : St} {a : Act} {u : Ty} {l : List (den u)} {nn : Int} {gi : Nat}
  (hx : ∀ (L : Nat) {k' : Ex → St → Option β} {w : World} {g : Gh} {σ : St} {a : Act}, Bl E x i σ k' = some r → Rel w g σ a.tmps [] →
   ∀ Q' : Exit → Act → World → Prop, (∀ e σ' a' w', k' e σ' = some r → AfterM true E.pins w g σ.mem a.defers σ' a' w' → Q' e.of a' w') → x.wpIn (Fence.wide.inRound L) 0 P Q' a w)
  (hy : ∀ (L : Nat) {k' : Ex → St → Option β} {w : World} {g : Gh} {σ : St} {a : Act}, Bl E y i σ k' = some r → Rel w g σ a.tmps [] →
   ∀ Q' : Exit → Act → World → Prop, (∀ e σ' a' w', k' e σ' = some r → AfterM true E.pins w g σ.mem a.defers σ' a' w' → Q' e.of a' w') → y.wpIn (Fence.wide.inRound L) 0 P Q' a w)
  (Z4 : ItOk P gi u) (hv : ItV w g.S gi u l nn (a.eval f))
  (hr : Fp E i σ (Lq (Fp E i) (fun z σ' k' => Bl E x i (σ'.setT p (.one z)) fun e σ'' => match e with | .normal => Bl E y i σ'' k' | _ => none) k (B8 nn.toNat l)) = some r)
  (h : Rel w g σ a.tmps []) {Q : Exit → Act → World → Prop} (hQ : ∀ σ' a' w', k .normal σ' = some r → AfterM false E.pins w g σ.mem a.defers σ' a' w' → Q .normal a' w') :
  (Code.rangeFunc f ps x y).wpIn Fence.wide n P Q a w := by
 obtain ⟨g1, σ1, hr1, h1, m1⟩ := Kc h hr
 obtain ⟨b1, b2, v, ev, s1, s2, c1, c2, hrd, hn, hl⟩ := hv.imp m1.st fun _ _ => rfl
 obtain ⟨ad, cap, rfl⟩ := Br hrd
 have hN : 1 ≤ nn.toNat := by have := hn.1; omega
 have hcap : l.length ≤ cap ∧ (ad = none → l.length = 0) := by
  obtain ⟨y, hy', ad', c', e1, e2, _, e3⟩ := hrd
  simp only [List.cons.injEq, and_true] at hy'
  subst hy'
  simp only [Value.slice.injEq, true_and] at e1
  obtain ⟨rfl, rfl⟩ := e1
  refine ⟨e2, fun hnone => ?_⟩
  rcases e3 with ⟨_, e4, _⟩ | ⟨b, o, _, e4, _⟩
  ·rw [e4]; rfl
  ·rw [hnone] at e4; cases e4
 have hsame : ∀ {W : World}, Frm w g1 W → ∀ b, g1.S b → W.heap[b]? = w.heap[b]? := fun hf b hb => by
  refine (hf b (h1.st b hb).2.2 ?_).eq fun o ⟨k, hk⟩ => (h1.box k b o hk).2.2 hb
  rintro (⟨k, hk⟩ | hk)
  ·exact (h1.st b hb).1 k hk
  ·cases hk
 refine wpIn_rangeFunc ?_
 intro fn hfn
 obtain ⟨rec, hrec⟩ : ∃ rec : LoopState → Option Code → Loop, rec = fun st pe => { state := st, pending := pe, fn, tmps := a.tmps, params := ps, assign := x, body := y, defers := w.heap.size } := ⟨_, rfl⟩
 obtain ⟨W1, hW1⟩ : ∃ W1, (w.alloc (.deferred (some []))).alloc (.loop (rec .ready none)) = W1 := ⟨_, rfl⟩
 have hL1 : W1.heap[w.heap.size + 1]? = some (.loop (rec .ready none)) := by
  rw [← hW1]; have := World.alloc_heap_new (w.alloc (.deferred (some []))) (.loop (rec .ready none)); rwa [World.size_alloc] at this
 have hb1 : Below w.heap.size w W1 := by
  rw [← hW1]; exact (((Below.refl _ w).alloc (Nat.le_refl _) _).alloc (by simp) _)
 have hD1 : W1.heap[w.heap.size]? = some (.deferred (some [])) := by
  rw [← hW1]; exact (Below.heap_alloc _ _ _ (by simp)).trans (World.alloc_heap_new w _)
 have hW1s : ∀ b, b < w.heap.size → W1.heap[b]? = w.heap[b]? := fun b hb => by
  rw [← hW1]; exact (Below.heap_alloc _ _ _ (by simp; omega)).trans (Below.heap_alloc _ _ _ hb)
 have hsz1 : W1.heap.size = w.heap.size + 2 := by rw [← hW1]; simp
 have io1 : Io w W1 := by rw [← hW1]; exact ⟨rfl, rfl, rfl⟩
 let J : Nat → World → Prop := fun j W => ∃ g' σ', Rel W g' σ' a.tmps [] ∧ Mv0 E.pins w g1 σ1.mem W g' σ'.mem ∧ Frm w g1 W ∧
  Lq (Fp E i) (fun z σ' k' => Bl E x i (σ'.setT p (.one z)) fun e σ'' => match e with | .normal => Bl E y i σ'' k' | _ => none) k ((B8 nn.toNat l).drop j) σ' = some r ∧
  W.heap[w.heap.size + 1]? = some (.loop (rec .ready none)) ∧ W.heap[w.heap.size]? = some (.deferred (some [])) ∧ NotM g' (w.heap.size + 1) ∧ NotM g' w.heap.size
 have hnm : ∀ b, w.heap.size ≤ b → NotM g1 b := fun b hb =>
  ⟨fun k hk => by have := h1.bllt k b hk; omega, fun k o hk => by have := h1.adlt hk; omega, fun hS => by have := (h1.st b hS).2.2; omega⟩
 have hJ0 : J 0 W1 := ⟨g1, σ1, h1.grow hW1s (by omega), ⟨fun _ h => h, fun _ h => .inl h, fun _ h => .inl h, fun k a h => .inl ⟨k, h⟩, by omega, io1, fun s k _ => Pn.refl s g1 rfl⟩, fun b hb _ => .inl (hW1s b hb).symm, by rw [List.drop_zero]; exact hr1, hL1, hD1, hnm _ (by omega), hnm _ (Nat.le_refl _)⟩
 have hcall := (callsIn_wide (n := n - 1)).2 (callsIn_wide.1 (Z4.2 (w.heap.size + 1) nn ad l.length cap b1 b2 J W1 hn hl hcap.1 hcap.2
  (fun j W ⟨g', σ', q1, q2, q3, _⟩ => ⟨(A4 (hsame q3 b1 s1)).trans c1, (A4 (hsame q3 b2 s2)).trans c2⟩)
  (fun j W ⟨g', σ', q1, q2, q3, q4, q5, q6, q7, q8⟩ => ⟨g', σ', q1.grow (fun _ _ => rfl) (Nat.le_refl _), ⟨q2.st, q2.own, q2.S, q2.ad, q2.sz, ⟨q2.io.os, q2.io.tape, q2.io.output⟩, q2.pin⟩, q3, q4, q5, q6, q7, q8⟩) ?round hJ0))
 case round =>
  rintro j W hj ⟨g', σ', q1, q2, q3, q4, q5, q6, q7, q8⟩
  have hLlt := Cz q5
  have hDlt := Cz q6
  rw [Xb8 hN l j hj] at q4
  simp only [Lq] at q4
  obtain ⟨arg, harg⟩ : ∃ arg : Value, arg = .slice (ad.map (·.add (j * nn.toNat * wd u))) (min nn.toNat (l.length - j * nn.toNat)) (min nn.toNat (l.length - j * nn.toNat)) := ⟨_, rfl⟩
  rw [← harg]
  have hy1 := run_yield (P := P) (args := #[arg]) q5 (by rw [hrec, hps]; rfl)
  have hrd' : Rd W g'.S (.sl u) .ro (Qq nn.toNat l j) [arg] [] := by
   rw [harg]
   exact (Xto hrd (by omega)).imp q2.st fun b hb => hsame q3 b (hb.resolve_right (by simp))
  rw [hrec] at hy1
  refine ⟨fn, _, x, y, hy1, roundIn_of_wpIn hfn ?_⟩
  have htm : (ps.zip #[arg]).foldl (fun tmps (t, v) => tmps.setIfInBounds t v) a.tmps = a.tmps.setIfInBounds p arg := by rw [hps]; simp
  dsimp only
  rw [htm]
  refine hx (w.heap.size + 1) (a := { tmps := a.tmps.setIfInBounds p arg, defers := [] }) q4 (q1.setT (t := p) (y := arg) hrd') _ fun e σ2 a2 W2 hk2 ha2 => ?_
  cases e with
  | exit id => simp at hk2
  | ret => simp at hk2
  | normal =>
   simp only at hk2
   obtain ⟨g2, r2, m2, f2, _, st2⟩ := ha2.ex
   have hL2 := (q7.same f2 hLlt).trans q5
   have n7 := q7.step m2 hLlt
   have n8 := q8.step m2 hDlt
   have hD2 := (q8.same f2 hDlt).trans q6
   refine ⟨_, run_beginRound hL2 (by rw [hrec]), ?_⟩
   have hs2 := m2.sz
   refine hy (w.heap.size + 1) hk2 (r2.put n7 _) _ fun e σ4 a4 W4 hk4 ha4 => ?_
   cases e with
   | exit id => simp at hk4
   | ret => simp at hk4
   | normal =>
    simp only at hk4
    obtain ⟨g4, r4, m4, f4, _, st4⟩ := ha4.ex
    have hL3 : (W2.putObj (w.heap.size + 1) (.loop { rec .ready none with state := .busy })).heap[w.heap.size + 1]? = some (.loop { rec .ready none with state := .busy }) := World.putObj_heap_same (by omega)
    have hD3 : (W2.putObj (w.heap.size + 1) (.loop { rec .ready none with state := .busy })).heap[w.heap.size]? = some (.deferred (some [])) := (World.putObj_heap_other (by omega)).trans hD2
    have hL4 := (n7.same f4 (Cz hL3)).trans hL3
    have hD4 := (n8.same f4 (Cz hD3)).trans hD3
    have k7 := n7.step m4 (Cz hL3)
    have k8 := n8.step m4 (Cz hD3)
    have hend := run_endRound (P := P) none hL4
    refine ⟨_, _, hend, rfl, ?_⟩
    have hs4 := m4.sz
    rw [Jf] at hs4
    have stAll : Step W g' σ'.mem W4 g4 σ4.mem := by
     have e2 := st2 rfl
     have e4 := st4 rfl
     have e3 : Step W2 g2 σ2.mem (W2.putObj (w.heap.size + 1) (.loop { rec .ready none with state := .busy })) g2 σ2.mem := Step.world r2 (fun b hb => World.putObj_heap_other fun he => by
      subst he
      rcases hb with hb | ⟨k, hb⟩
      ·exact n7.2.2 hb
      ·exact n7.1 k hb) (fun _ h => h) (fun _ _ h => h) rfl
     exact (e2.trans e3).trans e4
    have hS4 : ∀ b, g'.S b → W4.heap[b]? = W.heap[b]? := fun b hb => by
     have t1 : W2.heap[b]? = W.heap[b]? := by
      refine (f2 b (q1.st b hb).2.2 ?_).eq fun o ⟨k, hk⟩ => (q1.box k b o hk).2.2 hb
      rintro (⟨k, hk⟩ | hk)
      ·exact (q1.st b hb).1 k hk
      ·cases hk
     have hb2 : g2.S b := m2.st b hb
     have t2 : (W2.putObj (w.heap.size + 1) (.loop { rec .ready none with state := .busy })).heap[b]? = W2.heap[b]? := World.putObj_heap_other fun he => n7.2.2 (by rw [← he]; exact hb2)
     have r3 := r2.put n7 (.loop { rec .ready none with state := .busy })
     have t3 : W4.heap[b]? = (W2.putObj (w.heap.size + 1) (.loop { rec .ready none with state := .busy })).heap[b]? := by
      refine (f4 b (r3.st b hb2).2.2 ?_).eq fun o ⟨k, hk⟩ => (r3.box k b o hk).2.2 hb2
      rintro (⟨k, hk⟩ | hk)
      ·exact (r3.st b hb2).1 k hk
      ·cases hk
     exact t3.trans (t2.trans t1)
    have r5 : Rel W4 g4 ⟨σ'.ts, σ4.mm⟩ a.tmps [] := ⟨r4.mem, r4.cell, r4.inj, r4.pres, fun t => (q1.tmps t).step stAll hS4, q1.len, r4.nd, r4.dj, r4.box, r4.st, r4.hnd, r4.hdj, r4.hand⟩
    have r6 := r5.put k7 (.loop (rec .ready none))
    have hW5 : W4.putObj (w.heap.size + 1) (.loop { ({ rec .ready none with state := .busy } : Loop) with state := if (none : Option Code).isNone then .ready else .done, pending := none }) = W4.putObj (w.heap.size + 1) (.loop (rec .ready none)) := by rw [hrec]; rfl
    rw [hW5]
    obtain ⟨g5, σ5, hr5, r7, m5⟩ := Kc r6 hk4
    have mA : Mv0 E.pins w g1 σ1.mem W2 g2 σ2.mem := q2.trans m2
    have mB := mA.put (w.heap.size + 1) (.loop { rec .ready none with state := .busy })
    have mC : Mv0 E.pins w g1 σ1.mem W4 g4 σ4.mem := mB.trans m4
    have mD := mC.put (w.heap.size + 1) (.loop (rec .ready none))
    have fA : Frm w g1 W2 := q3.trans0 f2 q2
    have fB := fA.put (L := w.heap.size + 1) (by omega) (.loop { rec .ready none with state := .busy })
    have fC : Frm w g1 W4 := fB.trans0 f4 mB
    have fD := fC.put (L := w.heap.size + 1) (by omega) (.loop (rec .ready none))
    have hL5 : (W4.putObj (w.heap.size + 1) (.loop (rec .ready none))).heap[w.heap.size + 1]? = some (.loop (rec .ready none)) := World.putObj_heap_same (Cz hL4)
    have hD5 : (W4.putObj (w.heap.size + 1) (.loop (rec .ready none))).heap[w.heap.size]? = some (.deferred (some [])) := (World.putObj_heap_other (by omega)).trans hD4
    exact ⟨g5, σ5, r7, mD.trans m5, fD, hr5, hL5, hD5, k7.step m5 (Cz hL5), k8.step m5 (Cz hD5)⟩
 refine ⟨w.heap.size + 1, [X3p w.heap.size], W1, { target := .fn (.func gi) #[.pointer (some ⟨b1, 0, none⟩), .pointer (some ⟨b2, 0, none⟩)], args := #[.func (.yield (w.heap.size + 1)) #[] #[]] }, W1, gi,
  #[.func (.yield (w.heap.size + 1)) #[] #[], .pointer (some ⟨b1, 0, none⟩), .pointer (some ⟨b2, 0, none⟩)], W1, ?_, ?_, fun f' _ => trivial, ?_, ?_, ?_⟩
 ·rw [← hW1, hrec]; exact run_enterLoop_outer _ _ _ _ _
 ·simp only [Go.resolve, ev]
  simp [go_sem]
 ·simp [invoke, go_sem, Hb Z4.1]
 ·intro hd; cases hd
 ·refine hcall.mono ?_
  rintro e W2 ⟨⟨v, rfl⟩, g', σ', q1, q2, q3, q4, q5, q6, q7, q8⟩
  rw [Xgf] at q4
  simp only [Lq] at q4
  refine ⟨none, _, by have := run_endLoop (P := P) q5 (by rw [hrec]; simp); rw [hrec] at this; exact this, hQ σ' _ _ q4 ⟨g', q1.put q7 _, (m1.trans q2).put _ _, ((Frm.refl w g).trans0 q3 m1).put (by omega) _, ⟨[w.heap.size], rfl, by simp, fun D hD => ?_⟩, fun e => by cases e⟩⟩
  obtain rfl := List.mem_singleton.1 hD
  exact ⟨Nat.le_refl _, (World.putObj_heap_other (by omega)).trans q6, q8⟩
theorem Xcu (hE : EnvOk P E) (hm : P.follows .mixedOrders = true) : ∀ (c : Code) (F : Fence) (n : Nat) (s : Bool), Fw F → (s = true → Ef E c = true) → (F = Fence.wide ∨ Ef E c = true) → ∀ (i : Nat) {β : Type} {r : β} {k : Ex → St → Option β} {w : World} {g : Gh} {σ : St} {a : Act}, Bl E c i σ k = some r → Rel w g σ a.tmps [] →
  ∀ Q : Exit → Act → World → Prop, (∀ e σ' a' w', k e σ' = some r → AfterM s E.pins w g σ.mem a.defers σ' a' w' → Q e.of a' w') → c.wpIn F n P Q a w := by
 intro c
 induction c with
 | skip => intro F n s hF hs hfl i β r k w g σ a hr h Q hQ; exact wpIn_skip (hQ .normal σ a w hr ⟨g, h, Mv0.refl _ _ _ _, Frm.refl _ _, Mks.nil rfl, fun _ => Step.refl _ _ _⟩)
 | exit id => intro F n s hF hs hfl i β r k w g σ a hr h Q hQ; exact wpIn_exit (hQ (.exit id) σ a w hr ⟨g, h, Mv0.refl _ _ _ _, Frm.refl _ _, Mks.nil rfl, fun _ => Step.refl _ _ _⟩)
 | ret => intro F n s hF hs hfl i β r k w g σ a hr h Q hQ; exact wpIn_ret (hQ .ret σ a w hr ⟨g, h, Mv0.refl _ _ _ _, Frm.refl _ _, Mks.nil rfl, fun _ => Step.refl _ _ _⟩)
 | region id ops draw =>
  intro F n s hF hs hfl i β r k w g σ a hr h Q hQ
  simp only [Bl] at hr
  have reg : ∀ {g : Gh} {σ : St} {Q : Exit → Act → World → Prop}, Xv8 E ops draw σ k = some r → Rel w g σ a.tmps [] → (∀ σ' a' w', k .normal σ' = some r → After E.pins w g σ.mem a.defers σ' a' w' → Q .normal a' w') → (Code.region id ops draw).wpIn F n P Q a w := by
   intro g σ Q hr h hQ
   unfold Xv8 at hr
   cases draw with
   | true => exact M5 hE hF hm h hr hQ
   | false =>
    simp only [cond_false] at hr
    obtain ⟨u, σ', hs', hk⟩ := Dh hr
    have := Sq (F := F) (n := n) (Q := Q) hE hF (k := 0) (l := ops.toList) (by simp) h hs' fun a' w' ha => hQ σ' a' w' hk ha
    rw [Array.length_toList, ← List.range_eq_range'] at this
    exact wpIn_region this
  split at hr
  ·exact reg hr h fun σ' a' w' hk ha => hQ .normal σ' a' w' hk ha.m
  ·rename_i hh hrh
   cases hp : E2 E.pins hh σ with
   | false => rw [hp] at hr; simp at hr
   | true =>
    rw [hp, cond_true] at hr
    have hs0 : s = false := by
     cases s with
     | false => rfl
     | true => have := hs rfl; simp only [Ef, hrh] at this; cases this
    subst hs0
    obtain ⟨g0, h0, m0⟩ := h.prune hh hp
    exact reg hr h0 fun σ' a' w' hk ha => hQ .normal σ' a' w' hk (AfterM.trans m0 (Frm.refl _ _) (Mks.nil rfl) (fun e => by cases e) ha.m)
 | seq x y ihx ihy =>
  intro F n s hF hs hfl i β r k w g σ a hr h Q hQ
  simp only [Bl] at hr
  simp only [Ef, Bool.and_eq_true] at hs hfl
  refine wpIn_seq (ihx F n s hF (fun e => (hs e).1) (hfl.imp id (·.1)) i hr h _ fun e σ' a' w' hk ha => ?_)
  cases e with
  | normal =>
   obtain ⟨g', h1, m1, f1, d1, s1⟩ := ha.ex
   exact ihy F n s hF (fun e => (hs e).2) (hfl.imp id (·.2)) i hk h1 Q fun e σ2 a2 w2 hk2 ha2 => hQ e σ2 a2 w2 hk2 (AfterM.trans m1 f1 d1 s1 ha2)
  | exit id => exact hQ (.exit id) σ' a' w' hk ha
  | ret => exact hQ .ret σ' a' w' hk ha
 | cond c x y ihx ihy =>
  intro F n s hF hs hfl i β r k w g σ a hr h Q hQ
  simp only [Ef, Bool.and_eq_true] at hs hfl
  cases c with
  | tmp t =>
   simp only [Bl] at hr
   split at hr
   ·rename_i b hb
    have hv : a.eval (.tmp t) = .bool b := by
     have := h.tmps t
     rw [hb] at this
     exact this.1
    cases b with
    | true => exact wpIn_cond_true hv (ihx F n s hF (fun e => (hs e).1) (hfl.imp id (·.1)) i hr (h.setB hb) Q fun e σ' a' w' hk ha => hQ e σ' a' w' hk ha)
    | false => exact wpIn_cond_false hv (ihy F n s hF (fun e => (hs e).2) (hfl.imp id (·.2)) i hr (h.setB hb) Q fun e σ' a' w' hk ha => hQ e σ' a' w' hk ha)
   ·simp at hr
  | const v =>
   cases v with
   | bool b =>
    simp only [Bl] at hr
    cases b with
    | true => exact wpIn_cond_true rfl (ihx F n s hF (fun e => (hs e).1) (hfl.imp id (·.1)) i hr h Q hQ)
    | false => exact wpIn_cond_false rfl (ihy F n s hF (fun e => (hs e).2) (hfl.imp id (·.2)) i hr h Q hQ)
   | _ => simp [Bl] at hr
  | _ => simp [Bl] at hr
 | block id c ih =>
  intro F n s hF hs hfl i β r k w g σ a hr h Q hQ
  simp only [Bl] at hr
  refine wpIn_block (ih F n s hF hs hfl id hr h _ fun e σ' a' w' hk ha => ?_)
  cases e with
  | normal => exact hQ .normal σ' a' w' hk ha
  | exit id' =>
   simp only at hk
   simp only [Ex.of, Exit.inBlock]
   by_cases hid : id' = id
   ·rw [if_pos hid]
    have : Nat.beq id' id = true := by simp [hid]
    rw [this] at hk
    exact hQ .normal σ' a' w' hk ha
   ·rw [if_neg hid]
    rw [Ls hid] at hk
    exact hQ (.exit id') σ' a' w' hk ha
  | ret => exact hQ .ret σ' a' w' hk ha
 | loop c ih =>
  intro F n s hF hs hfl i β r k w g σ a hr h Q hQ
  simp only [Bl] at hr
  simp only [Ef] at hs hfl
  have hs0 : s = false := by cases s with | false => rfl | true => exact absurd (hs rfl) (by simp)
  subst hs0
  have hFw : F = Fence.wide := hfl.resolve_right (by simp)
  obtain ⟨g1, σ1, hr, h1, m1⟩ := Kc h hr
  exact Xdl (ds := a.defers) (w0 := w) (g0 := g) (mem0 := σ.mem) hE (fun hr h Q' hQ' => ih F n false hF (fun e => by cases e) (.inl hFw) i hr h Q' hQ') (fun e σ' a' w' _ hk ha => hQ e σ' a' w' hk ha) hr ⟨g1, h1, m1, Frm.refl _ _, Mks.nil rfl, fun e => by cases e⟩
 | rangeFunc f ps x y ihx ihy =>
  intro F n s hF hs hfl i β r k w g σ a hr h Q hQ
  simp only [Ef] at hs hfl
  have hs0 : s = false := by cases s with | false => rfl | true => exact absurd (hs rfl) (by simp)
  subst hs0
  obtain rfl : F = Fence.wide := hfl.resolve_right (by simp)
  cases f with
  | tmp t =>
   simp only [Bl] at hr
   split at hr
   ·rename_i gi u l nn p htp hps
    cases hc : (X5j E.itr gi u && Ef E x && Ef E y) with
    | false => rw [hc] at hr; simp at hr
    | true =>
     rw [hc] at hr
     simp only [cond_true] at hr
     simp only [Bool.and_eq_true] at hc
     obtain ⟨⟨hd, fx⟩, fy⟩ := hc
     have Z4 : ItOk P gi u := by
      unfold X5j at hd
      cases Z4 : Xbv E.itr gi with
      | none => rw [Z4] at hd; cases hd
      | some v =>
       rw [Z4] at hd
       simp only [decide_eq_true_eq] at hd
       subst hd
       obtain ⟨f0, hf0⟩ := Vi Z4
       exact (hE.itr _ hf0).2
     have hv : ItV w g.S gi u l nn (a.eval (.tmp t)) := by
      have := h.tmps t
      rw [htp] at this
      exact (this : _ ∧ _).2
     exact Xb7 hE (show ps = #[p] from Array.toList_inj.1 hps)
      (fun L k' w g σ a hr h Q' hQ' => ihx (Fence.wide.inRound L) 0 true (.inr ⟨L, rfl⟩) (fun _ => fx) (.inr fx) i hr h Q' hQ')
      (fun L k' w g σ a hr h Q' hQ' => ihy (Fence.wide.inRound L) 0 true (.inr ⟨L, rfl⟩) (fun _ => fy) (.inr fy) i hr h Q' hQ')
      Z4 hv hr h fun σ' a' w' hk ha => hQ .normal σ' a' w' hk ha
   ·simp at hr
  | _ => simp [Bl] at hr
 | _ => intro F n s hF hs hfl i β r k w g σ a hr h Q hQ; simp [Bl] at hr
end
end Go.Rf
end

section
set_option linter.unusedVariables false
set_option linter.unusedSimpArgs false
namespace Go.Rf
def N1 (x x' : Leaf) : Prop :=
 x' = x ∨ (x = .v (.slice none 0 0) ∧ ∃ m e, x' = .s m e []) ∨ ∃ n u l, x = .s n u l ∧ x' = .s .ro u l
def NL : List Leaf → List Leaf → Prop
 | [], [] => True
 | x :: xs, y :: ys => N1 x y ∧ NL xs ys
 | _, _ => False
theorem NL.refl : ∀ xs, NL xs xs
 | [] => trivial
 | x :: xs => ⟨.inl rfl, NL.refl xs⟩
theorem NL.append : ∀ {xs ys xs' ys' : List Leaf}, NL xs ys → NL xs' ys' → NL (xs ++ xs') (ys ++ ys')
 | [], [], _, _, _, h => h
 | _ :: _, _ :: _, _, _, ⟨h1, h2⟩, h => ⟨h1, h2.append h⟩
 | [], _ :: _, _, _, h, _ => h.elim
 | _ :: _, [], _, _, h, _ => h.elim
theorem Xcl (m : Mode) : ∀ (t : Ty) (cs : List Leaf), NL cs (Si m t cs) := by
 intro t
 induction t with
 | sl e ih =>
  intro cs
  unfold Si
  split
  ·rename_i h; cases h
   exact ⟨.inr (.inl ⟨rfl, _, _, rfl⟩), trivial⟩
  ·rename_i n u l h
   refine ⟨?_, trivial⟩
   cases m.isOwn with
   | true => exact .inl rfl
   | false => exact .inr (.inr ⟨_, _, _, rfl, rfl⟩)
  ·rename_i h; cases h
  ·exact NL.refl _
 | pair a b iha ihb =>
  intro cs
  simp only [Si]
  have := (iha (cs.take (wd a))).append (ihb (cs.drop (wd a)))
  rwa [List.take_append_drop] at this
 | _ => intro cs; exact NL.refl _
theorem NL.len : ∀ {xs ys : List Leaf}, NL xs ys → xs.length = ys.length
 | [], [], _ => rfl
 | _ :: _, _ :: _, ⟨_, h⟩ => by simp [h.len]
 | [], _ :: _, h => h.elim
 | _ :: _, [], h => h.elim
def NH : Hand → Hand → Prop
 | [], [] => True
 | z :: H, z' :: H' => (z'.2.1 = z.2.1 ∧ ((z'.1 = z.1 ∧ z'.2.2 = z.2.2) ∨ (z.1 = .v (.slice none 0 0) ∧ (∃ m e, z'.1 = .s m e []) ∧ z'.2.2 = []) ∨ ∃ n u l, z.1 = .s n u l ∧ z'.1 = .s .ro u l ∧ z'.2.2 = [])) ∧ NH H H'
 | _, _ => False
theorem NH.append : ∀ {H1 H1' H2 H2' : Hand}, NH H1 H1' → NH H2 H2' → NH (H1 ++ H2) (H1' ++ H2')
 | [], [], _, _, _, h => h
 | _ :: _, _ :: _, _, _, ⟨h1, h2⟩, h => ⟨h1, h2.append h⟩
 | [], _ :: _, _, _, h, _ => h.elim
 | _ :: _, [], _, _, h, _ => h.elim
theorem NH.sub : ∀ {H H' : Hand}, NH H H' → List.Sublist H'.bs H.bs
 | [], [], _ => List.Sublist.refl _
 | z :: H, z' :: H', ⟨⟨_, h1⟩, h2⟩ => by
  rw [Hand.bs_cons, Hand.bs_cons]
  refine List.Sublist.append ?_ h2.sub
  rcases h1 with ⟨_, h1⟩ | ⟨_, _, h1⟩ | ⟨_, _, _, _, _, h1⟩
  ·rw [h1]; exact List.Sublist.refl _
  ·rw [h1]; exact List.nil_sublist _
  ·rw [h1]; exact List.nil_sublist _
 | [], _ :: _, h => h.elim
 | _ :: _, [], h => h.elim
theorem NH.hz : ∀ {xs zs : List Leaf} {us : List Value} {bss : List (List Nat)}, NL xs zs → xs.length = us.length → bss.length = us.length → ∃ bss', bss'.length = us.length ∧ NH (Rf.hz xs us bss) (Rf.hz zs us bss')
 | [], [], [], [], _, _, _ => ⟨[], rfl, trivial⟩
 | x :: xs, z :: zs, u :: us, b :: bss, ⟨h1, h2⟩, l1, l2 => by
  obtain ⟨bss', l3, h3⟩ := NH.hz h2 (us := us) (bss := bss) (by simpa using l1) (by simpa using l2)
  rcases h1 with rfl | ⟨rfl, m, e, rfl⟩ | ⟨n, u', l, rfl, rfl⟩
  ·exact ⟨b :: bss', by simp [l3], ⟨rfl, .inl ⟨rfl, rfl⟩⟩, h3⟩
  ·exact ⟨[] :: bss', by simp [l3], ⟨rfl, .inr (.inl ⟨rfl, ⟨_, _, rfl⟩, rfl⟩)⟩, h3⟩
  ·exact ⟨[] :: bss', by simp [l3], ⟨rfl, .inr (.inr ⟨_, _, _, rfl, rfl, rfl⟩)⟩, h3⟩
 | [], [], _ :: _, _, _, l1, _ => by simp at l1
 | [], [], [], _ :: _, _, _, l2 => by simp at l2
 | [], _ :: _, _, _, h, _, _ => h.elim
 | _ :: _, [], _, _, h, _, _ => h.elim
 | _ :: _, _ :: _, [], _, _, l1, _ => by simp at l1
 | _ :: _, _ :: _, _ :: _, [], _, _, l2 => by simp at l2
section
variable {P : Program} {E : Env} {w : World} {g : Gh} {σ : St} {ts : Array Value} {tab : Tab} {γ : Type} {r : γ} {H H' : Hand} {a : Act}
theorem NH.lf {S : Nat → Prop} : ∀ {H H' : Hand}, NH H H' → H.bs.Nodup → (∀ z ∈ H, LfV w S z.1 z.2.1 z.2.2) → ∀ z ∈ H', LfV w (fun b => S b ∨ b ∈ H.bs ∧ b ∉ H'.bs) z.1 z.2.1 z.2.2
 | [], [], _, _, _, z, hz => by cases hz
 | z0 :: H, z1 :: H', ⟨⟨hy, h1⟩, h2⟩, hnd, hl, z, hz => by
  rw [Hand.bs_cons] at hnd
  obtain ⟨n1, n2, n3⟩ := List.nodup_append.1 hnd
  have h0 := hl z0 List.mem_cons_self
  rcases List.mem_cons.1 hz with rfl | hz
  ·rw [hy]
   rcases h1 with ⟨e1, e2⟩ | ⟨e1, ⟨m, e, e2⟩, e3⟩ | ⟨n, u, l, e1, e2, e3⟩
   ·rw [e1, e2]; exact h0.imp (fun b hb => .inl hb) fun _ _ => rfl
   ·rw [e1] at h0
    rw [e2, e3, (show z0.2.1 = _ from h0.1)]
    exact ⟨_, rfl, none, 0, rfl, Nat.le_refl _, fun _ => rfl, .inl ⟨.inl rfl, rfl, rfl, rfl⟩⟩
   ·rw [e1] at h0
    rw [e2, e3]
    refine Rd.imp (t := .sl u) (fun b hb => ?_) (Rd.toRo (show Rd w S (.sl u) n l [z0.2.1] z0.2.2 from h0)) fun _ _ => rfl
    rcases hb with hb | hb
    ·exact .inl hb
    ·refine .inr ⟨by rw [Hand.bs_cons]; exact List.mem_append_left _ hb, ?_⟩
     rw [Hand.bs_cons, e3, List.nil_append]
     exact fun h5 => n3 b hb b (h2.sub.subset h5) rfl
  ·refine (NH.lf h2 n2 (fun z hz => hl z (List.mem_cons_of_mem _ hz)) z hz).imp (fun b hb => ?_) fun _ _ => rfl
   rcases hb with hb | ⟨hb, hb'⟩
   ·exact .inl hb
   ·refine .inr ⟨by rw [Hand.bs_cons]; exact List.mem_append_right _ hb, ?_⟩
    rw [Hand.bs_cons]
    intro h5
    rcases List.mem_append.1 h5 with h5 | h5
    ·have : b ∈ z0.2.2 := by
      rcases h1 with ⟨_, e2⟩ | ⟨_, _, e3⟩ | ⟨_, _, _, _, _, e3⟩
      ·rwa [e2] at h5
      ·rw [e3] at h5; cases h5
      ·rw [e3] at h5; cases h5
     exact n3 b this b hb rfl
    ·exact hb' h5
 | [], _ :: _, h, _, _, _, _ => h.elim
 | _ :: _, [], h, _, _, _, _ => h.elim
theorem Rel.norm (h : Rel w g σ ts H) (hn : NH H H') : ∃ g', Rel w g' σ ts H' ∧ Mv w g σ H w g' σ H' := by
 have hs : ∀ b ∈ H'.bs, b ∈ H.bs ∨ False := fun b hb => .inl (hn.sub.subset hb)
 refine ⟨_, h.rehand (fun _ => False) (fun _ hf => hf.elim) (fun _ hf => hf.elim) hs (List.Nodup.sublist hn.sub h.hnd) ?_, Mv.rehand h (fun _ => False) (fun _ hf => hf.elim) hs (Mv.refl _ _ _ _)⟩
 intro z hz
 exact (NH.lf hn h.hnd h.hand z hz).imp (fun b hb => hb.imp id fun hb => ⟨.inl hb.1, hb.2⟩) fun _ _ => rfl
def RawH : Bool × List Leaf → Value → Hand → Prop
 | (false, zs), u, H => ∃ x bs, H = [(x, u, bs)] ∧ NL [x] zs
 | (true, zs), u, H => ∃ us bss xs, u = .agg us.toArray ∧ xs.length = us.length ∧ bss.length = us.length ∧ H = hz xs us bss ∧ NL xs zs
def RawHs : List (Bool × List Leaf) → List Value → Hand → Prop
 | [], [], H => H = []
 | z :: zs, u :: us, H => ∃ H1 H2, H = H1 ++ H2 ∧ RawH z u H1 ∧ RawHs zs us H2
 | _, _, _ => False
theorem RawH.tup {z : Bool × List Leaf} {u : Value} (h : RawH z u H) : ∃ H', NH H H' ∧ TupH z u H' := by
 obtain ⟨f, zs⟩ := z
 cases f with
 | true =>
  obtain ⟨us, bss, xs, rfl, l1, l2, rfl, hn⟩ := h
  obtain ⟨bss', l3, h3⟩ := NH.hz hn l1 l2
  exact ⟨_, h3, us, bss', rfl, by rw [← hn.len, l1], l3, rfl⟩
 | false =>
  obtain ⟨x, bs, rfl, hn⟩ := h
  match zs, hn with
  | [z], hn =>
   obtain ⟨bss', l3, h3⟩ := NH.hz (us := [u]) (bss := [bs]) hn rfl rfl
   match bss', l3, h3 with
   | [b'], _, h3 => exact ⟨_, h3, b', rfl⟩
theorem RawHs.tup : ∀ {zs : List (Bool × List Leaf)} {us : List Value} {H : Hand}, RawHs zs us H → ∃ H', NH H H' ∧ TupHs zs us H'
 | [], [], H, h => by
  have : H = [] := h
  subst this
  exact ⟨[], trivial, rfl⟩
 | z :: zs, u :: us, H, ⟨H1, H2, he, h1, h2⟩ => by
  subst he
  obtain ⟨H1', a1, a2⟩ := h1.tup
  obtain ⟨H2', b1, b2⟩ := h2.tup
  exact ⟨H1' ++ H2', a1.append b1, H1', H2', rfl, a2, b2⟩
 | [], _ :: _, _, h => h.elim
 | _ :: _, [], _, h => h.elim
theorem TupH.v {S : Nat → Prop} {z : Bool × List Leaf} {u : Value} (h : TupH z u H) (hl : ∀ z ∈ H, LfV w S z.1 z.2.1 z.2.2) : Mk w S z u H.bs := by
 obtain ⟨f, zs⟩ := z
 cases f with
 | true =>
  obtain ⟨us, bss, rfl, l1, l2, rfl⟩ := h
  exact ⟨us, bss, rfl, Sr l1 l2 hl, Un l1 l2⟩
 | false =>
  match zs, h with
  | [x], ⟨bs, he⟩ =>
   subst he
   have := hl _ List.mem_cons_self
   simpa [Hand.bs, Mk] using this
theorem TupHs.v {S : Nat → Prop} : ∀ {zs : List (Bool × List Leaf)} {us : List Value} {H : Hand}, TupHs zs us H → (∀ z ∈ H, LfV w S z.1 z.2.1 z.2.2) → ∃ bss, Lb w S zs us bss ∧ H.bs = bss.flatten
 | [], [], H, h, hl => by
  have : H = [] := h
  subst this
  exact ⟨[], trivial, rfl⟩
 | z :: zs, u :: us, H, ⟨H1, H2, he, h1, h2⟩, hl => by
  subst he
  obtain ⟨bss, b1, b2⟩ := h2.v (fun z hz => hl z (List.mem_append_right _ hz))
  exact ⟨H1.bs :: bss, ⟨h1.v fun z hz => hl z (List.mem_append_left _ hz), b1⟩, by rw [Hand.bs_append, b2]; rfl⟩
 | [], _ :: _, _, h, _ => h.elim
 | _ :: _, [], _, h, _ => h.elim
theorem Qt {x : A} {u : Value} {t : Nat} (h : Rel w g σ ts H) (hx : AR w g σ.mem x u) {K : Bool × List Leaf → St → Option γ} (hr : (Kn E t x).run tab σ K = some r) :
  ∃ z H0 g' σ', K z σ' = some r ∧ RawH z u H0 ∧ Rel w g' σ' ts (H0 ++ H) ∧ Mv w g σ H w g' σ' (H0 ++ H) := by
 cases x with
 | one x =>
  simp only [Kn, run_bind] at hr
  obtain ⟨x', bs, g1, σ1, hr, h1, m1⟩ := Ca h hx hr
  cases hf : B6 E.frz 2999999 with
  | true => rw [hf, cond_true] at hr; exact ⟨_, [(x', u, bs)], g1, σ1, hr, ⟨x', bs, rfl, NL.refl _⟩, h1, m1⟩
  | false =>
  rw [hf, cond_false] at hr
  cases ht : E.ty t with
  | none => rw [ht] at hr; exact ⟨_, [(x', u, bs)], g1, σ1, hr, ⟨x', bs, rfl, NL.refl _⟩, h1, m1⟩
  | some i => rw [ht] at hr; exact ⟨_, [(x', u, bs)], g1, σ1, hr, ⟨x', bs, rfl, Xcl _ _ _⟩, h1, m1⟩
 | agg xs =>
  obtain ⟨us, rfl, hl⟩ := hx
  simp only [Kn, run_bind] at hr
  obtain ⟨xs', bss, g1, σ1, hr, l1, l2, h1, m1⟩ := Cu h hl hr
  cases ht : E.ty t with
  | none => rw [ht] at hr; simp [Pg.run] at hr
  | some i => rw [ht] at hr; exact ⟨_, hz xs' us bss, g1, σ1, hr, ⟨us, bss, xs', rfl, by rw [l1, hl.1], by rw [l2, hl.1], rfl, Xcl _ _ _⟩, h1, m1⟩
 | tup xs => simp [Kn, Pg.run] at hr
def U3 (P : Program) (w : World) (a : Act) : List ResultVar → List Value → Prop
 | [], [] => True
 | .tmp t :: r, u :: us => u = a.tmps.getD t undef ∧ U3 P w a r us
 | .cell c t :: r, u :: us => (∃ a', a.tmps.getD c undef = .pointer (some a') ∧ (loadVar t a').run P w = .ok u w) ∧ U3 P w a r us
 | _, _ => False
theorem Ix (hE : ∀ t i, E.ty t = some i → TyOk P t i) : ∀ {rs : List ResultVar} {ts : List Nat} {g : Gh} {σ : St} {H : Hand} (h : Rel w g σ a.tmps H) {K : List (Bool × List Leaf) → St → Option γ} (hr : (Kl E rs ts).run tab σ K = some r),
  ∃ zs us H0 g' σ', K zs σ' = some r ∧ RawHs zs us H0 ∧ Rel w g' σ' a.tmps (H0 ++ H) ∧ Mv w g σ H w g' σ' (H0 ++ H) ∧ U3 P w a rs us
 | [], ts, g, σ, H, h, K, hr => ⟨[], [], [], g, σ, hr, rfl, h, Mv.refl _ _ _ _, trivial⟩
 | .tmp t :: rs, ts, g, σ, H, h, K, hr => by
  simp only [Kl, Pg.run, run_bind] at hr
  obtain ⟨z, H1, g1, σ1, hr, hz, h1, m1⟩ := Qt h (h.tmps t) hr
  obtain ⟨zs, us, H2, g2, σ2, hr, hzs, h2, m2, hrs⟩ := Ix hE h1 hr
  have hp : (H2 ++ (H1 ++ H)).Perm ((H1 ++ H2) ++ H) := by
   rw [← List.append_assoc]
   exact List.Perm.append_right H List.perm_append_comm
  exact ⟨_, a.tmps.getD t undef :: us, H1 ++ H2, g2, σ2, hr, ⟨H1, H2, rfl, hz, hzs⟩, h2.perm hp, (m1.trans m2).perm hp, rfl, hrs⟩
 | .cell c t :: rs, ts, g, σ, H, h, K, hr => by
  simp only [Kl, Pg.run, run_bind] at hr
  obtain ⟨x, u, hr, hx, hld⟩ := U8 hE h (h.tmps c) hr
  obtain ⟨z, H1, g1, σ1, hr, hz, h1, m1⟩ := Qt h hx hr
  obtain ⟨zs, us, H2, g2, σ2, hr, hzs, h2, m2, hrs⟩ := Ix hE h1 hr
  have hp : (H2 ++ (H1 ++ H)).Perm ((H1 ++ H2) ++ H) := by
   rw [← List.append_assoc]
   exact List.Perm.append_right H List.perm_append_comm
  refine ⟨_, u :: us, H1 ++ H2, g2, σ2, hr, ⟨H1, H2, rfl, hz, hzs⟩, h2.perm hp, (m1.trans m2).perm hp, ?_, hrs⟩
  generalize a.tmps.getD c undef = y at hld
  cases y with
  | pointer p =>
   cases p with
   | some a' => exact ⟨a', rfl, by simpa [Instr.loadAt, Instr.sureAddr] using hld⟩
   | none => simp [Instr.loadAt, Instr.sureAddr] at hld
  | _ => simp [Instr.loadAt, Instr.sureAddr] at hld
def L7 : List Value → Value
 | [v] => v
 | vs => .tuple vs.toArray
theorem Qe {fn : Func} {us : List Value} (h : U3 P w a fn.results.toList us) : (results fn a.tmps).run P w = .ok (L7 us) w := by
 have key : ∀ (l : List ResultVar) (us : List Value), U3 P w a l us →
   (l.mapM fun
    | ResultVar.tmp t => (pure (a.tmps.getD t undef) : Sem Value)
    | .cell a' t => do loadVar t (← asAddr (a.tmps.getD a' undef))).run P w = .ok us w := by
  intro l
  induction l with
  | nil =>
   intro us h
   cases us with
   | nil => simp
   | cons _ _ => exact h.elim
  | cons x l ih =>
   intro us h
   cases us with
   | nil => cases x <;> exact h.elim
   | cons u us =>
    rw [List.mapM_cons]
    cases x with
    | tmp t =>
     obtain ⟨h1, h2⟩ := h
     simp only [Sem.run_bind, Sem.run_pure, Result.andThen]
     rw [ih us h2, h1]
    | cell c t =>
     obtain ⟨⟨a', h0, h1⟩, h2⟩ := h
     have ha : (asAddr (.pointer (some a'))).run P w = .ok a' w := rfl
     simp only [Sem.run_bind, h0, ha, Sem.run_pure, Result.andThen, h1]
     rw [ih us h2]
 have hk := key _ _ h
 have harr : (fn.results.mapM fun
    | ResultVar.tmp t => (pure (a.tmps.getD t undef) : Sem Value)
    | .cell a' t => do loadVar t (← asAddr (a.tmps.getD a' undef))).run P w = .ok us.toArray w := by
  rw [Array.mapM_eq_mapM_toList]
  rw [map_eq_pure_bind, Sem.run_bind, hk]
  rfl
 unfold results
 rw [Sem.run_bind]
 refine Eq.trans (congrArg (fun z => Result.andThen z (fun vs w' => (pure (if h : vs.size = 1 then vs[0] else .tuple vs) : Sem Value).run P w')) harr) ?_
 simp only [Result.andThen, Sem.run_pure]
 match us with
 | [] => rfl
 | [v] => rfl
 | _ :: _ :: _ => rfl
theorem Ov {S : Nat → Prop} {z : Bool × List Leaf} : ∀ {us : List Value} {bss : List (List Nat)}, Lb w S [z] us bss → ∃ u b, us = [u] ∧ bss = [b] ∧ Mk w S z u b
 | [u], [b], ⟨h, _⟩ => ⟨u, b, rfl, rfl, h⟩
 | [], _, h => h.elim
 | _ :: _, [], h => h.elim
 | _ :: _ :: _, [_], ⟨_, h⟩ => h.elim
 | [_], _ :: _ :: _, ⟨_, h⟩ => h.elim
 | _ :: _ :: _, _ :: _ :: _, ⟨_, h⟩ => h.elim
theorem Pb {S : Nat → Prop} : ∀ {zs : List (Bool × List Leaf)} {us : List Value} {bss : List (List Nat)}, Lb w S zs us bss → us.length = zs.length ∧ bss.length = zs.length
 | [], [], [], _ => ⟨rfl, rfl⟩
 | _ :: _, _ :: _, _ :: _, ⟨_, h⟩ => by have := Pb h; simp [this.1, this.2]
 | [], _ :: _, _, h => h.elim
 | [], [], _ :: _, h => h.elim
 | _ :: _, [], _, h => h.elim
 | _ :: _, _ :: _, [], h => h.elim
theorem Xs (hE : ∀ t i, E.ty t = some i → TyOk P t i) {rs : List ResultVar} {ts : List Nat} (h : Rel w g σ a.tmps []) {x : A} {σ' : St} (hr : (Ss E rs ts).run tab σ (fun a s => some (a, s)) = some (x, σ')) :
  ∃ us g' H', Rel w g' σ' a.tmps H' ∧ Mv w g σ [] w g' σ' H' ∧ U3 P w a rs us ∧
   Uz w g'.S x (L7 us) H'.bs := by
 unfold Ss at hr
 rw [run_bind] at hr
 obtain ⟨zs, us, H0, g1, σ1, hr, hraw, h1, m1, hrs⟩ := Ix hE h hr
 rw [List.append_nil] at h1 m1
 obtain ⟨H', hn, ht⟩ := hraw.tup
 obtain ⟨g2, h2, m2⟩ := h1.norm hn
 obtain ⟨bss, hv, hbs⟩ := ht.v h2.hand
 clear hraw ht
 refine ⟨us, ?_⟩
 split at hr
 ·rename_i y
  obtain ⟨rfl, rfl⟩ := Cl hr
  obtain ⟨u, b, rfl, rfl, hv1⟩ := Ov hv
  refine ⟨g2, H', h2, m1.trans m2, hrs, ?_⟩
  rw [hbs]
  simpa [Uz, Mk, L7] using hv1
 ·rename_i ys
  obtain ⟨rfl, rfl⟩ := Cl hr
  obtain ⟨u, b, rfl, rfl, hv1⟩ := Ov hv
  refine ⟨g2, H', h2, m1.trans m2, hrs, ?_⟩
  rw [hbs]
  simpa [Uz, L7] using hv1
 ·obtain ⟨rfl, rfl⟩ := Cl hr
  obtain ⟨l1, l2⟩ := Pb hv
  have e1 : us = [] := List.length_eq_zero_iff.1 l1
  have e2 : bss = [] := List.length_eq_zero_iff.1 l2
  subst e1; subst e2
  refine ⟨g2, H', h2, m1.trans m2, hrs, ?_⟩
  rw [hbs]
  exact ⟨rfl, rfl⟩
 ·rename_i hne1 hne2 hne3
  obtain ⟨rfl, rfl⟩ := Cl hr
  refine ⟨g2, H', h2, m1.trans m2, hrs, ?_⟩
  have hlen : ¬ us.length = 1 := by
   intro hl
   have hz : zs.length = 1 := by rw [← (Pb hv).1, hl]
   match zs, hz with
   | [z], _ =>
    obtain ⟨u, b, _, _, hv1⟩ := Ov hv
    obtain ⟨f, l⟩ := z
    cases f with
    | true => exact hne2 l rfl
    | false =>
     match l, hv1 with
     | [y], _ => exact hne1 y rfl
  have : L7 us = .tuple us.toArray := by
   clear hrs hv
   match us, hlen with
   | [], _ => rfl
   | [_], h => simp at h
   | _ :: _ :: _, _ => rfl
  rw [this]
  exact ⟨us, bss, rfl, hv, hbs⟩
end
end Go.Rf
end

section
set_option linter.unusedVariables false
set_option linter.unusedSimpArgs false
namespace Go.Rf
theorem Pn.trans {s : Bool} {g1 g2 g3 : Gh} {m1 m2 m3 : Mem} {k : Nat} (h : Pn s g1 m1 g2 m2 k) (h' : Pn s g2 m2 g3 m3 k) : Pn s g1 m1 g3 m3 k := by
 intro e he
 obtain ⟨e2, a1, a2, a3⟩ := h e he
 obtain ⟨e3, b1, b2, b3⟩ := h' e2 a1
 refine ⟨e3, b1, fun a ha => b2 a (a2 a ha), fun hst => ?_⟩
 obtain ⟨c1, c2⟩ := a3 hst
 obtain ⟨d1, d2⟩ := b3 hst
 refine ⟨Nat.le_trans c1 d1, fun hv z hz => ?_⟩
 obtain ⟨u1, u2⟩ := c2 (by omega) z hz
 obtain ⟨t1, t2⟩ := d2 (by omega) z u2
 exact ⟨t1.trans u1, t2⟩
theorem Step.pn {w w' : World} {g g' : Gh} {mem mem' : Mem} (h : Step w g mem w' g' mem') (s : Bool) (k : Nat) : Pn s g mem g' mem' k := fun e he => by
 obtain ⟨e', h1, h2, _, h3⟩ := h.key k e he
 exact ⟨e', h1, h.ad k, fun _ => ⟨h2, fun hv z hz => ⟨(h3 hv z hz).1, (h3 hv z hz).2.1⟩⟩⟩
section
variable {P : Program} {E : Env} {w : World} {g : Gh} {σ : St} {ts : Array Value} {tab : Tab} {γ : Type} {r : γ} {H : Hand}
theorem Xpj (h : Rel w g σ ts H) {k : Nat} {e : Ent} (he : σ.mem k = some e) {m : Mode} {t : Ty} {l : List (den t)} (hc : e.c = .s m t l) : LfR w g σ.mem (.a (.cell k) e.v0 e.v1 none) (g.hv k) [] := by
 have hm := h.mem k e he
 rw [hc] at hm
 obtain ⟨ad, c, hy⟩ := Br (hm : Rd w g.S (.sl t) m l [g.hv k] (g.bl k))
 exact ⟨rfl, ⟨ad, _, c, hy⟩, e, he, Nat.le_refl _, Nat.le_refl _, fun _ => ⟨trivial, t, l.length, g.hv k, by simp [leafAt, he, hc, lstOf], rfl, rfl⟩⟩
theorem Vl (h : Rel w g σ ts H) {s : Bool} {k : Nat} {K : Leaf → St → Option γ} (hr : (V3 s k).run tab σ K = some r) :
  ∃ y b g' σ' e, σ.mem k = some e ∧ K y σ' = some r ∧ Rel w g' σ' ts ((y, g.hv k, b) :: H) ∧ Mv w g σ H w g' σ' ((y, g.hv k, b) :: H) ∧
   (s = true → e.v0 = 0 ∧ ∃ m t l l', e.c = .s m t l ∧ y = .s m t l' ∧ m.isOwn = true) := by
 simp only [V3, run_bind] at hr
 obtain ⟨e, he, hr⟩ := A2 hr
 obtain ⟨hl, hr⟩ := An hr
 have hm := h.mem k e he
 cases hc : e.c with
 | s m t l =>
  rw [hc] at hr
  simp only at hr
  obtain ⟨x, σ1, hx, hk⟩ := Dh hr
  obtain ⟨x', bs, g1, σ1', heq, h1, m1⟩ := Ca (x := .a (.cell k) e.v0 e.v1 none) h (Xpj h he hc) hx
  simp only [Option.some.injEq, Prod.mk.injEq] at heq
  obtain ⟨rfl, rfl⟩ := heq
  refine ⟨x', bs, g1, σ1', e, he, hk, h1, m1, fun hs => ?_⟩
  subst hs
  simp only [hc, Bool.not_true, Bool.false_or, Bool.and_eq_true] at hl
  refine ⟨Nat.eq_of_beq_eq_true hl.1, m, t, l, l, hc, ?_, hl.2⟩
  simp only [F4, run_bind] at hx
  obtain ⟨e2, he2, hx⟩ := A2 hx
  rw [he] at he2; cases he2
  obtain ⟨_, hx⟩ := An hx
  rw [hc] at hx
  simp only [hl.2, cond_true, Pg.run, win, Option.some.injEq, Prod.mk.injEq] at hx
  exact hx.1.symm
 | v x =>
  rw [hc] at hr hm
  simp only [Pg.run] at hr
  refine ⟨.v x, [], g, σ, e, he, hr, h.push (show LfV w g.S (.v x) (g.hv k) [] from ⟨hm.1, rfl⟩), Mv.push _ _ _ _ _ _, fun hs => ?_⟩
  subst hs
  simp [hc] at hl
 | a p v0 v1 wi =>
  rw [hc] at hr hm
  simp only at hr
  obtain ⟨x', bs, g1, σ1, hk, h1, m1⟩ := Ca h (show LfR w g σ.mem (.a p v0 v1 wi) (g.hv k) [] from ⟨rfl, hm.2⟩) hr
  refine ⟨x', bs, g1, σ1, e, he, hk, h1, m1, fun hs => ?_⟩
  subst hs
  simp [hc] at hl
 | _ => rw [hc] at hr; simp [Pg.run] at hr
def BH (w : World) : List Bk → List (List Leaf) → Hand → Prop
 | [], [], HB => HB = []
 | .lent v :: r, ys :: yss, HB => ∃ m t l b H2, ys = [.s m t l] ∧ m.isOwn = true ∧ HB = (.s m t l, v, b) :: H2 ∧ BH w r yss H2
 | .row b o n :: r, ys :: yss, HB => ∃ us bss H2, us.length = n ∧ ys.length = us.length ∧ bss.length = us.length ∧ HB = hz ys us bss ++ H2 ∧ (∀ (j : Nat) (u : Value), us[j]? = some u → cellAt w b (o + j) = some u) ∧ BH w r yss H2
 | _, _, _ => False
theorem BH.backs {S : Nat → Prop} : ∀ {bks : List Bk} {yss : List (List Leaf)} {HB : Hand}, BH w bks yss HB → (∀ z ∈ HB, LfV w S z.1 z.2.1 z.2.2) → ∃ bbs, BacksV w S bks yss bbs ∧ HB.bs = bbs.flatten
 | [], [], HB, h, _ => by
  have : HB = [] := h
  subst this
  exact ⟨[], trivial, rfl⟩
 | .lent v :: r, ys :: yss, HB, ⟨m, t, l, b, H2, e1, e2, e3, h⟩, hl => by
  subst e3
  obtain ⟨bbs, h1, h2⟩ := BH.backs h fun z hz => hl z (List.mem_cons_of_mem _ hz)
  exact ⟨b :: bbs, ⟨⟨m, t, l, e1, e2, hl _ List.mem_cons_self⟩, h1⟩, by rw [Hand.bs_cons, h2]; rfl⟩
 | .row b o n :: r, ys :: yss, HB, ⟨us, bss, H2, e1, e2, e3, e4, e5, h⟩, hl => by
  subst e4
  obtain ⟨bbs, h1, h2⟩ := BH.backs h fun z hz => hl z (List.mem_append_right _ hz)
  exact ⟨bss.flatten :: bbs, ⟨⟨us, bss, e1, Sr e2 e3 fun z hz => hl z (List.mem_append_left _ hz), rfl, e5⟩, h1⟩, by rw [Hand.bs_append, h2, Un e2 e3]; rfl⟩
 | [], _ :: _, _, h, _ => h.elim
 | .lent _ :: _, [], _, h, _ => h.elim
 | .row _ _ _ :: _, [], _, h, _ => h.elim
theorem Qb {b : Nat} : ∀ {n k o : Nat} {g : Gh} {σ : St} {H : Hand} (h : Rel w g σ ts H) (had : ∀ j, j < n → g.ad (k + j) = some (b, o + j)) {K : List Leaf → St → Option γ} (hr : (Pg.mapL (V3 false) (Ay k n)).run tab σ K = some r),
  ∃ ys us bss g' σ', K ys σ' = some r ∧ us.length = n ∧ ys.length = us.length ∧ bss.length = us.length ∧ Rel w g' σ' ts (hz ys us bss ++ H) ∧ Mv w g σ H w g' σ' (hz ys us bss ++ H) ∧ ∀ (j : Nat) (u : Value), us[j]? = some u → cellAt w b (o + j) = some u
 | 0, k, o, g, σ, H, h, had, K, hr => ⟨[], [], [], g, σ, hr, rfl, rfl, rfl, h, Mv.refl _ _ _ _, fun j u hu => by simp at hu⟩
 | n + 1, k, o, g, σ, H, h, had, K, hr => by
  simp only [Ay, Pg.mapL, run_bind] at hr
  obtain ⟨y, b1, g1, σ1, e, he, hr, h1, m1, _⟩ := Vl h hr
  obtain ⟨ys, us, bss, g2, σ2, hr, l1, l2, l3, h2, m2, hc⟩ := Qb (n := n) (k := k + 1) (o := o + 1) h1
   (fun j hj => m1.st.ad _ _ (by have := had (j + 1) (by omega); rwa [show k + 1 + j = k + (j + 1) by omega, show o + 1 + j = o + (j + 1) by omega])) hr
  have hp : (hz ys us bss ++ ((y, g.hv k, b1) :: H)).Perm (hz (y :: ys) (g.hv k :: us) (b1 :: bss) ++ H) := by
   simp only [hz, List.cons_append]
   exact List.perm_middle
  refine ⟨y :: ys, g.hv k :: us, b1 :: bss, g2, σ2, hr, by simp [l1], by simp [l2], by simp [l3], h2.perm hp, (m1.trans m2).perm hp, fun j u hu => ?_⟩
  cases j with
  | zero =>
   simp only [List.getElem?_cons_zero, Option.some.injEq] at hu
   subst hu
   have := had 0 (by omega)
   exact (h.cell _ _ _ this).1
  | succ j =>
   have := hc j u (by simpa using hu)
   rwa [show o + 1 + j = o + (j + 1) by omega] at this
theorem Ks {g0 : Gh} {mem0 : Mem} : ∀ {bks : List Bk} {bk : List (Bool × List Nat)} {g : Gh} {σ : St} {H : Hand} (h : Rel w g σ ts H) (hB : BkR g0 mem0 bks bk)
  (hP : ∀ s k, (s, k) ∈ Ea bk → Pn s g0 mem0 g σ.mem k) {K : List (List Leaf) → St → Option γ} (hr : (Pg.mapL (fun (s, ks) => Pg.mapL (V3 s) ks) bk).run tab σ K = some r),
  ∃ yss HB g' σ', K yss σ' = some r ∧ Rel w g' σ' ts (HB ++ H) ∧ Mv w g σ H w g' σ' (HB ++ H) ∧ BH w bks yss HB
 | [], [], g, σ, H, h, hB, hP, K, hr => ⟨[], [], g, σ, hr, h, Mv.refl _ _ _ _, rfl⟩
 | .lent v :: bks, (true, [k]) :: bk, g, σ, H, h, ⟨⟨hv, m0, t0, l0, u0, u1, he0, hm0⟩, hB⟩, hP, K, hr => by
  simp only [Pg.mapL, run_bind] at hr
  obtain ⟨y, b1, g1, σ1, e, he, hr, h1, m1, hs⟩ := Vl h hr
  obtain ⟨h0, m, t, l, l', hc, rfl, hmo⟩ := hs rfl
  simp only [Pg.run] at hr
  obtain ⟨yss, HB, g2, σ2, hr, h2, m2, hBH⟩ := Ks h1 hB (fun s k hk => (hP s k (by simp only [Ea, List.mem_append]; exact .inr hk)).trans (m1.st.pn s k)) hr
  have hp : (HB ++ ((.s m t l', g.hv k, b1) :: H)).Perm ((.s m t l', g.hv k, b1) :: HB ++ H) := List.perm_middle
  refine ⟨_, _, g2, σ2, hr, h2.perm hp, (m1.trans m2).perm hp, m, t, l', b1, HB, rfl, hmo, ?_, hBH⟩
  have hpn := hP true k (by simp [Ea])
  obtain ⟨e', a1, a2, a3⟩ := hpn _ he0
  rw [he] at a1; cases a1
  obtain ⟨c1, c2⟩ := a3 rfl
  simp only at c1 c2
  have := (c2 (by omega) (t0, l0.length) rfl).1
  rw [this, hv]
 | .row b o n :: bks, (false, ks0) :: bk, g, σ, H, h, ⟨⟨k, hks, had, hex⟩, hB⟩, hP, K, hr => by
  subst hks
  simp only [Pg.mapL, run_bind] at hr
  have had' : ∀ j, j < n → g.ad (k + j) = some (b, o + j) := fun j hj => by
   have hk : k + j ∈ Ay k n := List.mem_of_getElem? (B5 k n j hj)
   obtain ⟨e, he⟩ := hex _ hk
   obtain ⟨e', _, a2, _⟩ := hP false (k + j) (by simp only [Ea, List.mem_append, List.mem_map]; exact .inl ⟨_, hk, rfl⟩) e he
   exact a2 _ (had j hj)
  obtain ⟨ys, us, bss, g1, σ1, hr, l1, l2, l3, h1, m1, hc⟩ := Qb h had' hr
  simp only [Pg.run] at hr
  obtain ⟨yss, HB, g2, σ2, hr, h2, m2, hBH⟩ := Ks h1 hB (fun s k hk => (hP s k (by simp only [Ea, List.mem_append]; exact .inr hk)).trans (m1.st.pn s k)) hr
  have hp : (HB ++ (hz ys us bss ++ H)).Perm ((hz ys us bss ++ HB) ++ H) := by
   rw [← List.append_assoc]
   exact List.Perm.append_right H List.perm_append_comm
  exact ⟨_, _, g2, σ2, hr, h2.perm hp, (m1.trans m2).perm hp, us, bss, HB, l1, l2, l3, rfl, hc, hBH⟩
 | [], _ :: _, _, _, _, _, h, _, _, _ => h.elim
 | .lent _ :: _, [], _, _, _, _, h, _, _, _ => h.elim
 | .row _ _ _ :: _, [], _, _, _, _, h, _, _, _ => h.elim
 | .lent _ :: _, (false, _) :: _, _, _, _, _, h, _, _, _ => h.elim
 | .lent _ :: _, (true, []) :: _, _, _, _, _, h, _, _, _ => h.elim
 | .lent _ :: _, (true, _ :: _ :: _) :: _, _, _, _, _, h, _, _, _ => h.elim
 | .row _ _ _ :: _, (true, _) :: _, _, _, _, _, h, _, _, _ => h.elim
theorem Xcb {rs : List ResultVar} {ts : List Nat} {bk : List (Bool × List Nat)} {K : A × List (List Leaf) → St → Option γ} (hr : (Xam E rs ts bk).run tab σ K = some r) :
  (Xho E rs ts bk).run tab σ K = some r ∨ ∃ t k n v0, rs = [.tmp t] ∧ σ.tmp t = .one (.ptr (.cell k) n v0) ∧ (Xso E k n bk).run tab σ K = some r := by
 unfold Xam at hr
 split at hr
 ·rename_i t
  simp only [Pg.run] at hr
  cases hx : T8 (σ.tmp t) with
  | none => rw [hx] at hr; exact .inl hr
  | some kn =>
   rw [hx] at hr
   right
   generalize hy : σ.tmp t = y at hx
   unfold T8 at hx
   split at hx
   ·rename_i k n v0
    simp only [Option.some.injEq] at hx
    subst hx
    exact ⟨t, k, n, v0, rfl, hy, hr⟩
   ·cases hx
 ·exact .inl hr
theorem Xhm {S : Nat → Prop} : ∀ {ys : List Leaf} {us : List Value} {bss : List (List Nat)}, Cs w S ys us bss → ys.all roC = true → bss.flatten = []
 | [], [], [], _, _ => rfl
 | y :: ys, u :: us, b :: bss, ⟨h1, h2⟩, ha => by
  simp only [List.all_cons, Bool.and_eq_true] at ha
  have ih := Xhm h2 ha.2
  simp only [List.flatten_cons, ih, List.append_nil]
  cases y with
  | v x => exact h1.2
  | s m t l => exact C4 (show Rd w S (.sl t) m l [u] b from h1) (by simpa [roC] using ha.1)
  | _ => exact h1.elim
 | [], _ :: _, _, h, _ => h.elim
 | [], [], _ :: _, h, _ => h.elim
 | _ :: _, [], _, h, _ => h.elim
 | _ :: _, _ :: _, [], h, _ => h.elim
theorem Li {S : Nat → Prop} : ∀ {b1 b2 : List Bk} {y1 y2 : List (List Leaf)} {s1 s2 : List (List Nat)}, BacksV w S b1 y1 s1 → BacksV w S b2 y2 s2 → BacksV w S (b1 ++ b2) (y1 ++ y2) (s1 ++ s2)
 | [], _, [], _, [], _, _, h => h
 | k :: ks, _, y :: ys, _, b :: bs, _, ⟨h1, h2⟩, h => ⟨h1, Li h2 h⟩
 | [], _, _ :: _, _, _, _, h, _ => h.elim
 | [], _, [], _, _ :: _, _, h, _ => h.elim
 | _ :: _, _, [], _, _, _, h, _ => h.elim
 | _ :: _, _, _ :: _, _, [], _, h, _ => h.elim
theorem Xay : ∀ {bk : List (Bool × List Nat)} {k : Nat}, k ∈ bk.flatMap (·.2) → ∃ s, (s, k) ∈ Ea bk
 | (s, ks) :: r, k, h => by
  simp only [List.flatMap_cons, List.mem_append] at h
  rcases h with h | h
  ·exact ⟨s, by simp only [Ea, List.mem_append, List.mem_map]; exact .inl ⟨k, h, rfl⟩⟩
  ·obtain ⟨s', h'⟩ := Xay h
   exact ⟨s', by simp only [Ea, List.mem_append]; exact .inr h'⟩
 | [], k, h => by simp at h
end
end Go.Rf
end

section
set_option linter.unusedVariables false
set_option linter.unusedSimpArgs false
namespace Go.Rf
structure KE where
 k : Nat
 c : Leaf
 v : Value
 bs : List Nat
 a : Option (Nat × Nat)
def KE.ent (z : KE) : Nat × Ent := (z.k, ⟨z.c, 0, 0⟩)
def fk : List KE → Nat → Option KE
 | [], _ => none
 | z :: r, k => cond (Nat.beq z.k k) (some z) (fk r k)
theorem W6 : ∀ (KL : List KE) (k : Nat), lk (KL.map KE.ent) k = (fk KL k).map fun z => ⟨z.c, 0, 0⟩
 | [], k => rfl
 | z :: r, k => by
  simp only [List.map_cons, KE.ent, lk, fk]
  cases Nat.beq z.k k with
  | true => rfl
  | false => exact W6 r k
theorem Fs : ∀ {KL : List KE} {k : Nat} {z : KE}, fk KL k = some z → z ∈ KL ∧ z.k = k
 | [], k, z, h => by simp [fk] at h
 | z0 :: r, k, z, h => by
  simp only [fk] at h
  cases hb : Nat.beq z0.k k with
  | true =>
   rw [hb] at h
   simp only [cond_true, Option.some.injEq] at h
   subst h
   exact ⟨List.mem_cons_self, Nat.eq_of_beq_eq_true hb⟩
  | false =>
   rw [hb] at h
   obtain ⟨h1, h2⟩ := Fs h
   exact ⟨List.mem_cons_of_mem _ h1, h2⟩
theorem Xmw : ∀ {KL : List KE} {z : KE}, (KL.map (·.k)).Nodup → z ∈ KL → fk KL z.k = some z
 | z0 :: r, z, hn, h => by
  simp only [List.map_cons, List.nodup_cons] at hn
  simp only [fk]
  rcases List.mem_cons.1 h with rfl | h
  ·simp
  ·have : z0.k ≠ z.k := fun he => hn.1 (by rw [he]; exact List.mem_map_of_mem h)
   rw [Ls this]
   exact Xmw hn.2 h
def gK (S : Nat → Prop) (KL : List KE) : Gh := ⟨fun k => (fk KL k).bind (·.a), fun k => ((fk KL k).map (·.v)).getD undef, fun k => ((fk KL k).map (·.bs)).getD [], S⟩
theorem R5 : ∀ {KL : List KE}, (KL.flatMap (·.bs)).Nodup → ∀ {z z' : KE}, z ∈ KL → z' ∈ KL → z.k ≠ z'.k → ∀ b ∈ z.bs, b ∉ z'.bs
 | z0 :: r, hn, z, z', h, h', hne, b, hb, hb' => by
  simp only [List.flatMap_cons] at hn
  obtain ⟨n1, n2, n3⟩ := List.nodup_append.1 hn
  rcases List.mem_cons.1 h with h1 | h1
  ·rcases List.mem_cons.1 h' with h2 | h2
   ·exact hne (by rw [h1, h2])
   ·rw [h1] at hb
    exact n3 b hb b (List.mem_flatMap.2 ⟨z', h2, hb'⟩) rfl
  ·rcases List.mem_cons.1 h' with h2 | h2
   ·rw [h2] at hb'
    exact n3 b hb' b (List.mem_flatMap.2 ⟨z, h1, hb⟩) rfl
   ·exact R5 n2 h1 h2 hne b hb hb'
theorem Xeq {KL : List KE} (hn : (KL.flatMap (·.bs)).Nodup) {z : KE} (h : z ∈ KL) : z.bs.Nodup := by
 induction KL with
 | nil => cases h
 | cons z0 r ih =>
  simp only [List.flatMap_cons] at hn
  obtain ⟨n1, n2, _⟩ := List.nodup_append.1 hn
  rcases List.mem_cons.1 h with rfl | h
  ·exact n1
  ·exact ih n2 h
def adsOf (KL : List KE) : List (Nat × Nat) := KL.filterMap (·.a)
theorem Xiu : ∀ {KL : List KE}, (adsOf KL).Nodup → ∀ {z z' : KE} {a : Nat × Nat}, z ∈ KL → z' ∈ KL → z.a = some a → z'.a = some a → (KL.map (·.k)).Nodup → z.k = z'.k
 | z0 :: r, hn, z, z', a, h, h', ha, ha', hk => by
  have hmem : ∀ {y : KE}, y ∈ r → y.a = some a → a ∈ adsOf r := fun hy hya => List.mem_filterMap.2 ⟨_, hy, hya⟩
  simp only [List.map_cons, List.nodup_cons] at hk
  rcases List.mem_cons.1 h with h1 | h1
  ·rcases List.mem_cons.1 h' with h2 | h2
   ·rw [h1, h2]
   ·subst h1
    simp only [adsOf, List.filterMap_cons, ha, List.nodup_cons] at hn
    exact absurd (hmem h2 ha') hn.1
  ·rcases List.mem_cons.1 h' with h2 | h2
   ·subst h2
    simp only [adsOf, List.filterMap_cons, ha', List.nodup_cons] at hn
    exact absurd (hmem h1 ha) hn.1
   ·refine Xiu ?_ h1 h2 ha ha' hk.2
    simp only [adsOf, List.filterMap_cons] at hn
    split at hn
    ·exact hn
    ·exact (List.nodup_cons.1 hn).2
section
variable {P : Program} {E : Env} {w : World} {S : Nat → Prop}
theorem Xl8 {KL : List KE} (hkn : (KL.map (·.k)).Nodup) (hnd : (KL.flatMap (·.bs)).Nodup) (hl : ∀ z ∈ KL, LfV w S z.c z.v z.bs) (hS : ∀ b ∈ KL.flatMap (·.bs), ¬ S b)
  (hlt : ∀ b, S b → b < w.heap.size) (hcell : ∀ z ∈ KL, ∀ b o, z.a = some (b, o) → cellAt w b o = some z.v ∧ BlkOk w b (o + 1)) (hai : (adsOf KL).Nodup)
  (hbox : ∀ a ∈ adsOf KL, a.1 ∉ KL.flatMap (·.bs) ∧ ¬ S a.1) {ts : List A} {vs : Array Value} (hts : ∀ t, AR w (gK S KL) (lk (KL.map KE.ent)) (nthD ts t (.one .d)) (vs.getD t undef)) (hlen : ts.length = vs.size) :
  Rel w (gK S KL) ⟨ts, KL.map KE.ent⟩ vs [] := by
 have hbl : ∀ k b, b ∈ (gK S KL).bl k → ∃ z ∈ KL, z.k = k ∧ b ∈ z.bs := by
  intro k b hb
  simp only [gK] at hb
  cases hz : fk KL k with
  | none => rw [hz] at hb; simp at hb
  | some z =>
   rw [hz] at hb
   obtain ⟨h1, h2⟩ := Fs hz
   exact ⟨z, h1, h2, by simpa using hb⟩
 have had : ∀ k a, (gK S KL).ad k = some a → ∃ z ∈ KL, fk KL k = some z ∧ z.k = k ∧ z.a = some a := by
  intro k a ha
  simp only [gK] at ha
  cases hz : fk KL k with
  | none => rw [hz] at ha; simp at ha
  | some z =>
   rw [hz] at ha
   obtain ⟨h1, h2⟩ := Fs hz
   exact ⟨z, h1, rfl, h2, ha⟩
 refine ⟨?_, fun k b o ha => ?_, fun k k' a h1 h2 => ?_, ?_, hts, hlen, ?_, ?_, fun k b o ha => ?_, ?_, by simp [Hand.bs], fun k b _ hb => (by cases hb), fun x hx => (by cases hx)⟩
 ·intro k e he
  have he : lk (KL.map KE.ent) k = some e := he
  rw [W6] at he
  cases hz : fk KL k with
  | none => rw [hz] at he; simp at he
  | some z =>
   rw [hz] at he
   simp only [Option.map_some, Option.some.injEq] at he
   subst he
   obtain ⟨h1, h2⟩ := Fs hz
   have h3 := hl z h1
   simp only [gK, hz, Option.map_some, Option.getD_some]
   cases hc : z.c with
   | v x => rw [hc] at h3; exact h3
   | s m t l => rw [hc] at h3; exact h3
   | _ => rw [hc] at h3; exact h3.elim
 ·obtain ⟨z, h1, h2, h3, h4⟩ := had k _ ha
  have : (gK S KL).hv k = z.v := by simp [gK, h2]
  rw [this]
  exact hcell z h1 b o h4
 ·obtain ⟨z, a1, a2, a3, a4⟩ := had k _ h1
  obtain ⟨z', b1, b2, b3, b4⟩ := had k' _ h2
  rw [← a3, ← b3]
  exact Xiu hai a1 b1 a4 b4 hkn
 ·intro k hk
  have hk : lk (KL.map KE.ent) k = none := hk
  rw [W6] at hk
  cases hz : fk KL k with
  | none => simp [gK, hz]
  | some z => rw [hz] at hk; simp at hk
 ·intro k
  simp only [gK]
  cases hz : fk KL k with
  | none => simp
  | some z => exact Xeq hnd (Fs hz).1
 ·intro k k' hne b hb hb'
  obtain ⟨z, h1, h2, h3⟩ := hbl k b hb
  obtain ⟨z', h4, h5, h6⟩ := hbl k' b hb'
  exact R5 hnd h1 h4 (by rw [h2, h5]; exact hne) b h3 h6
 ·obtain ⟨z, h1, h2, h3, h4⟩ := had k _ ha
  have hb := hbox (b, o) (List.mem_filterMap.2 ⟨z, h1, h4⟩)
  refine ⟨fun k' hk' => ?_, (fun h => by cases h), hb.2⟩
  obtain ⟨z', c1, c2, c3⟩ := hbl k' b hk'
  exact hb.1 (List.mem_flatMap.2 ⟨z', c1, c3⟩)
 ·intro b hb
  refine ⟨fun k hk => ?_, (fun h => by cases h), hlt b hb⟩
  obtain ⟨z, h1, _, h3⟩ := hbl k b hk
  exact hS b (List.mem_flatMap.2 ⟨z, h1, h3⟩) hb
def Holds (g : Gh) (mem : Mem) (KL : List KE) : Prop := ∀ z ∈ KL, mem z.k = some ⟨z.c, 0, 0⟩ ∧ g.hv z.k = z.v ∧ ∀ a, z.a = some a → g.ad z.k = some a
structure KOk (w : World) (S : Nat → Prop) (KL : List KE) (bs : List Nat) (bks : List Bk) (bk : List (Bool × List Nat)) : Prop where
 bs : KL.flatMap (·.bs) = bs
 lf : ∀ z ∈ KL, LfV w S z.c z.v z.bs
 cell : ∀ z ∈ KL, ∀ b o, z.a = some (b, o) → cellAt w b o = some z.v ∧ BlkOk w b (o + 1)
 ads : adsOf KL = bks.flatMap Bk.rows
 bk : ∀ g mem, Holds g mem KL → BkR g mem bks bk
theorem KOk.nil : KOk w S [] [] [] [] := ⟨rfl, by simp, by simp, rfl, fun _ _ _ => trivial⟩
theorem KOk.append {K1 K2 : List KE} {b1 b2 : List Nat} {k1 k2 : List Bk} {q1 q2 : List (Bool × List Nat)} (h1 : KOk w S K1 b1 k1 q1) (h2 : KOk w S K2 b2 k2 q2) : KOk w S (K1 ++ K2) (b1 ++ b2) (k1 ++ k2) (q1 ++ q2) :=
 ⟨by simp [h1.bs, h2.bs], fun z hz => (List.mem_append.1 hz).elim (h1.lf z) (h2.lf z), fun z hz => (List.mem_append.1 hz).elim (h1.cell z) (h2.cell z),
  by simp only [adsOf, List.filterMap_append, List.flatMap_append]; rw [show List.filterMap (·.a) K1 = _ from h1.ads, show List.filterMap (·.a) K2 = _ from h2.ads],
  fun g mem hh => (h1.bk g mem fun z hz => hh z (List.mem_append_left _ hz)).append (h2.bk g mem fun z hz => hh z (List.mem_append_right _ hz))⟩
theorem Xh3 {m : Mode} {t : Ty} {l : List (den t)} {v : Value} {bs : List Nat} (hrd : Rd w S (.sl t) m l [v] bs) {k : Nat} {a : Option (Nat × Nat)} {g : Gh} {mem : Mem} (hh : Holds g mem [⟨k, .s m t l, v, bs, a⟩]) :
  LfR w g mem (.a (.cell k) 0 0 none) v [] := by
 obtain ⟨h1, h2, _⟩ := hh _ List.mem_cons_self
 obtain ⟨ad, c, hy⟩ := Br hrd
 refine ⟨rfl, ⟨ad, _, c, hy⟩, _, h1, Nat.le_refl _, Nat.le_refl _, fun _ => ⟨trivial, t, l.length, v, ?_, ?_, rfl⟩⟩
 ·simp only [leafAt, h1]; rfl
 ·simp only [hdrAt]; exact congrArg some h2
def Ee (b : Nat) : Nat → Nat → List Leaf → List Value → List (List Nat) → List KE
 | k, o, c :: cs, u :: us, x :: bss => ⟨k, c, u, x, some (b, o)⟩ :: Ee b (k + 1) (o + 1) cs us bss
 | _, _, _, _, _ => []
theorem Sw {b : Nat} : ∀ {cs : List Leaf} {us : List Value} {bss : List (List Nat)} {k o : Nat}, Cs w S cs us bss → (∀ (j : Nat) (u : Value), us[j]? = some u → cellAt w b (o + j) = some u) → BlkOk w b (o + us.length) →
  (R7 k cs = (Ee b k o cs us bss).map KE.ent) ∧ (Ee b k o cs us bss).flatMap (·.bs) = bss.flatten ∧ (∀ z ∈ Ee b k o cs us bss, LfV w S z.c z.v z.bs) ∧
  (∀ z ∈ Ee b k o cs us bss, ∀ b' o', z.a = some (b', o') → cellAt w b' o' = some z.v ∧ BlkOk w b' (o' + 1)) ∧ adsOf (Ee b k o cs us bss) = Ft b o cs.length ∧
  (∀ j, j < cs.length → ∃ z ∈ Ee b k o cs us bss, z.k = k + j ∧ z.a = some (b, o + j)) ∧ ∀ k' ∈ Ay k cs.length, ∃ z ∈ Ee b k o cs us bss, z.k = k'
 | [], [], [], k, o, _, _, _ => ⟨rfl, rfl, by simp [Ee], by simp [Ee], rfl, fun j hj => by simp at hj, fun k' hk => by simp [Ay] at hk⟩
 | c :: cs, u :: us, x :: bss, k, o, ⟨h1, h2⟩, hc, hb => by
  obtain ⟨a1, a2, a3, a4, a5, a6, a7⟩ := Sw (b := b) (k := k + 1) (o := o + 1) h2 (fun j v hv => by have := hc (j + 1) v (by simpa using hv); rwa [show o + 1 + j = o + (j + 1) by omega])
   (by rw [List.length_cons] at hb; rwa [show o + 1 + us.length = o + (us.length + 1) by omega])
  refine ⟨by simp [R7, Ee, a1, KE.ent], by simp [Ee, a2], fun z hz => ?_, fun z hz b' o' hz' => ?_, ?_, fun j hj => ?_, fun k' hk => ?_⟩
  ·rcases List.mem_cons.1 hz with rfl | hz
   ·exact h1
   ·exact a3 z hz
  ·rcases List.mem_cons.1 hz with rfl | hz
   ·simp only [Option.some.injEq, Prod.mk.injEq] at hz'
    obtain ⟨rfl, rfl⟩ := hz'
    refine ⟨by have := hc 0 u rfl; simpa using this, ?_⟩
    obtain ⟨cs', te, e1, e2⟩ := hb
    exact ⟨cs', te, e1, by simp at e2; omega⟩
   ·exact a4 z hz b' o' hz'
  ·simp only [Ee, adsOf, List.filterMap_cons, List.length_cons, Ft]
   rw [show List.filterMap (·.a) (Ee b (k + 1) (o + 1) cs us bss) = _ from a5]
  ·cases j with
   | zero => exact ⟨_, List.mem_cons_self, rfl, rfl⟩
   | succ j =>
    obtain ⟨z, z1, z2, z3⟩ := a6 j (by simpa using hj)
    exact ⟨z, List.mem_cons_of_mem _ z1, by omega, by rw [z3]; congr 2; omega⟩
  ·simp only [List.length_cons, Ay, List.mem_cons] at hk
   rcases hk with rfl | hk
   ·exact ⟨_, List.mem_cons_self, rfl⟩
   ·obtain ⟨z, z1, z2⟩ := a7 k' hk
    exact ⟨z, List.mem_cons_of_mem _ z1, z2⟩
 | [], _ :: _, _, _, _, h, _, _ => h.elim
 | [], [], _ :: _, _, _, h, _, _ => h.elim
 | _ :: _, [], _, _, _, h, _, _ => h.elim
 | _ :: _, _ :: _, [], _, _, h, _, _ => h.elim
theorem Vt : ∀ {rs : List (List Leaf)} {vs : List Value} {bss : List (List Nat)} (k : Nat), RowsV w S rs vs bss → ∃ KL : List KE, Zv k rs = KL.map KE.ent ∧ KOk w S KL bss.flatten (bkF rs vs) (Xfl k rs) ∧
  (∀ g mem, g.S = S → Holds g mem KL → vs.length = (Hv k rs).length ∧ ∀ (i : Nat) (p : Loc) (n v0 : Nat) (z : Value), (Hv k rs)[i]? = some (p, n, v0) → vs[i]? = some z → POk g mem p n v0 z)
 | [], [], [], k, _ => ⟨[], rfl, KOk.nil, fun g mem _ _ => ⟨rfl, by simp [Hv]⟩⟩
 | cs :: rs, v :: vs, b :: bss, k, ⟨h1, hr⟩ => by
  obtain ⟨bl, o, us, bs, rfl, h2, rfl, h4, h5⟩ := h1
  obtain ⟨a1, a2, a3, a4, a5, a6, a7⟩ := Sw (k := k) h2 h4 h5
  obtain ⟨K2, b1, b2, b3⟩ := Vt (k + 100) hr
  refine ⟨Ee bl k o cs us bs ++ K2, by simp [Zv, a1, b1], KOk.append (k1 := [.row bl o cs.length]) (q1 := [(false, Ay k cs.length)])
   ⟨a2, a3, a4, by simp [Bk.rows, a5], fun g mem hh => ⟨⟨k, rfl, fun j hj => ?_, fun k' hk' => ?_⟩, trivial⟩⟩ b2, fun g mem hgS hh => ?_⟩
  ·obtain ⟨z, z1, z2, z3⟩ := a6 j hj
   rw [← z2]; exact (hh z z1).2.2 _ z3
  ·obtain ⟨z, z1, z2⟩ := a7 k' hk'
   exact ⟨_, by rw [← z2]; exact (hh z z1).1⟩
  ·obtain ⟨c1, c2⟩ := b3 g mem hgS fun z hz => hh z (List.mem_append_right _ hz)
   refine ⟨by simp [Hv, c1], fun i p n v0 z hc hz => ?_⟩
   cases i with
   | zero =>
    simp only [Hv, List.getElem?_cons_zero, Option.some.injEq, Prod.mk.injEq] at hc hz
    obtain ⟨rfl, rfl, rfl⟩ := hc
    subst hz
    refine ⟨bl, o, rfl, fun j hj => ?_⟩
    obtain ⟨z, z1, z2, z3⟩ := a6 j hj
    rw [← z2]; exact (hh z (List.mem_append_left _ z1)).2.2 _ z3
   | succ i => exact c2 i p n v0 z (by simpa [Hv] using hc) (by simpa using hz)
 | [], _ :: _, _, _, h => h.elim
 | [], [], _ :: _, _, h => h.elim
 | _ :: _, [], _, _, h => h.elim
 | _ :: _, _ :: _, [], _, h => h.elim
theorem Qm {x : XL} {v : Value} {bs : List Nat} (h : XR w S x v bs) (k : Nat) : ∃ KL : List KE, (Cp k x).2 = KL.map KE.ent ∧ KOk w S KL bs (bkX x v) (Tr k x) ∧
  (∀ g mem, g.S = S → Holds g mem KL → LfR w g mem (Cp k x).1 v []) := by
 cases x with
 | l x =>
  cases x with
  | v z =>
   obtain ⟨h1, h2⟩ := (h : v = z ∧ bs = [])
   subst h2
   exact ⟨[], rfl, KOk.nil, fun g mem _ _ => ⟨h1, rfl⟩⟩
  | s m t l =>
   have hrd : Rd w S (.sl t) m l [v] bs := h
   cases hm : m.isOwn with
   | true =>
    refine ⟨[⟨k, .s m t l, v, bs, none⟩], ?_, ⟨by simp, fun z hz => ?_, fun z hz b o ha => ?_, rfl, fun _ _ _ => trivial⟩, fun g mem hgS hh => ?_⟩
    ·simp [Cp, hm, KE.ent]
    ·have hz := List.mem_singleton.1 hz
     subst hz; exact h
    ·have hz := List.mem_singleton.1 hz
     subst hz; cases ha
    ·simp only [Cp, hm, cond_true]
     exact Xh3 hrd hh
   | false =>
    have hb := C4 hrd hm
    subst hb
    refine ⟨[], ?_, KOk.nil, fun g mem hgS _ => ?_⟩
    ·simp [Cp, hm]
    ·simp only [Cp, hm, cond_false]
     subst hgS
     exact hrd
  | _ => exact (h : False).elim
 | b x =>
  obtain ⟨⟨m, t, l, rfl, hm⟩, hrd⟩ := h
  have hrd : Rd w S (.sl t) m l [v] bs := hrd
  refine ⟨[⟨k, .s m t l, v, bs, none⟩], rfl, ⟨by simp, fun z hz => ?_, fun z hz b o ha => ?_, rfl, fun g mem hh => ?_⟩, fun g mem hgS hh => Xh3 hrd hh⟩
  ·have hz := List.mem_singleton.1 hz
   subst hz; exact hrd
  ·have hz := List.mem_singleton.1 hz
   subst hz; cases ha
  ·obtain ⟨h1, h2, _⟩ := hh _ List.mem_cons_self
   exact ⟨⟨h2, m, t, l, 0, 0, h1, hm⟩, trivial⟩
 | p cs =>
  obtain ⟨b, o, us, bss, rfl, h2, rfl, h4, h5⟩ := h
  obtain ⟨a1, a2, a3, a4, a5, a6, a7⟩ := Sw (k := k) h2 h4 h5
  refine ⟨Ee b k o cs us bss, a1, ⟨a2, a3, a4, by simp [bkX, Bk.rows, a5], fun g mem hh => ⟨⟨k, rfl, fun j hj => ?_, fun k' hk' => ?_⟩, trivial⟩⟩, fun g mem hgS hh => ⟨rfl, b, o, rfl, fun j hj => ?_⟩⟩
  ·obtain ⟨z, z1, z2, z3⟩ := a6 j hj
   rw [← z2]; exact (hh z z1).2.2 _ z3
  ·obtain ⟨z, z1, z2⟩ := a7 k' hk'
   exact ⟨_, by rw [← z2]; exact (hh z z1).1⟩
  ·obtain ⟨z, z1, z2, z3⟩ := a6 j hj
   rw [← z2]; exact (hh z z1).2.2 _ z3
 | fn f rs =>
  cases rs with
  | nil =>
   obtain ⟨h1, h2⟩ := h
   subst h2
   exact ⟨[], rfl, by subst h1; exact KOk.nil, fun g mem _ _ => ⟨rfl, [], h1, rfl, by simp [Cp, Hv]⟩⟩
  | cons r0 rs =>
   obtain ⟨vs, bss, rfl, h2, rfl⟩ := h
   obtain ⟨KL, a1, a2, a3⟩ := Vt (k + 100) h2
   exact ⟨KL, a1, a2, fun g mem hgS hh => ⟨rfl, vs, rfl, (a3 g mem hgS hh).1, (a3 g mem hgS hh).2⟩⟩
theorem Qs : ∀ {xs : List XL} {vs : List Value} {bss : List (List Nat)} (k : Nat), XRs w S xs vs bss → ∃ KL : List KE, (Cn k xs).2 = KL.map KE.ent ∧ KOk w S KL bss.flatten (Xkg xs vs) (Xc1 k xs) ∧
  (∀ g mem, g.S = S → Holds g mem KL → LsR w g mem (Cn k xs).1 vs)
 | [], [], [], k, _ => ⟨[], rfl, KOk.nil, fun g mem _ _ => ⟨rfl, by simp [Cn]⟩⟩
 | x :: xs, v :: vs, b :: bss, k, ⟨h1, h2⟩ => by
  obtain ⟨K1, a1, a2, a3⟩ := Qm h1 k
  obtain ⟨K2, b1, b2, b3⟩ := Qs (k + 1) h2
  refine ⟨K1 ++ K2, by simp [Cn, a1, b1], a2.append b2, fun g mem hgS hh => ?_⟩
  have h3 := a3 g mem hgS fun z hz => hh z (List.mem_append_left _ hz)
  have h4 := b3 g mem hgS fun z hz => hh z (List.mem_append_right _ hz)
  refine ⟨by simp [Cn, h4.1], fun i x z hx hz => ?_⟩
  cases i with
  | zero => simp [Cn] at hx hz; subst hx; subst hz; exact h3
  | succ i => exact h4.2 i x z (by simpa [Cn] using hx) (by simpa using hz)
 | [], _ :: _, _, _, h => h.elim
 | [], [], _ :: _, _, h => h.elim
 | _ :: _, [], _, _, h => h.elim
 | _ :: _, _ :: _, [], _, h => h.elim
theorem Gb : ∀ {as : List Arg} {vs : List Value} {bss : List (List Nat)} (i : Nat), ArgsV w S as vs bss → ∃ KL : List KE, (A6 i as).2 = KL.map KE.ent ∧ KOk w S KL bss.flatten (Mh as vs) (Da i as) ∧
  (∀ g mem, g.S = S → Holds g mem KL → ArgsR w g mem (A6 i as).1 vs) ∧ vs.length = as.length ∧ (A6 i as).1.length = as.length
 | [], [], [], i, _ => ⟨[], rfl, KOk.nil, fun g mem _ _ => trivial, rfl, rfl⟩
 | .one x :: as, v :: vs, b :: bss, i, ⟨h1, h2⟩ => by
  obtain ⟨K1, a1, a2, a3⟩ := Qm (show XR w S x v b from h1) (G3 * i)
  obtain ⟨K2, b1, b2, b3, b4, b5⟩ := Gb (i + 1) h2
  exact ⟨K1 ++ K2, by simp [A6, a1, b1], a2.append b2,
   fun g mem hgS hh => ⟨a3 g mem hgS fun z hz => hh z (List.mem_append_left _ hz), b3 g mem hgS fun z hz => hh z (List.mem_append_right _ hz)⟩, by simp [b4], by simp [A6, b5]⟩
 | .agg xs :: as, v :: vs, b :: bss, i, ⟨⟨us, cs, hv, h1, hb⟩, h2⟩ => by
  subst hv hb
  obtain ⟨K1, a1, a2, a3⟩ := Qs (G3 * i) h1
  obtain ⟨K2, b1, b2, b3, b4, b5⟩ := Gb (i + 1) h2
  exact ⟨K1 ++ K2, by simp [A6, a1, b1], a2.append b2,
   fun g mem hgS hh => ⟨⟨us, rfl, a3 g mem hgS fun z hz => hh z (List.mem_append_left _ hz)⟩, b3 g mem hgS fun z hz => hh z (List.mem_append_right _ hz)⟩, by simp [b4], by simp [A6, b5]⟩
 | [], _ :: _, _, _, h => h.elim
 | [], [], _ :: _, _, h => h.elim
 | _ :: _, [], _, _, h => h.elim
 | _ :: _, _ :: _, [], _, h => h.elim
theorem ArgsR.get {g : Gh} {mem : Mem} : ∀ {xs : List A} {vs : List Value} (t : Nat), ArgsR w g mem xs vs → t < xs.length → AR w g mem (nthD xs t (.one .d)) (vs.getD t undef)
 | _ :: _, _ :: _, 0, ⟨h, _⟩, _ => h
 | _ :: xs, _ :: vs, t + 1, ⟨_, h⟩, hlt => by simpa [nthD] using ArgsR.get t h (by simpa using hlt)
 | [], _, _, _, hlt => by simp at hlt
 | _ :: _, [], _, h, _ => h.elim
theorem Pe (hE : EnvOk P E) (hm : P.follows .mixedOrders = true) {f : Nat} {fn : Func} {as : List Arg} {cr : CR} (hf : P.funcs[f]? = some fn) (hk : Pw ((A6 0 as).2.map (·.1)) = true) (hpin : E.pins = Ea (Da 0 as))
  (h : ∀ r, cr.o = some r → Af E fn as some = some (cr.e r)) : Contract P f as cr := by
 intro w S vals bss hA hnd hS hlt hrn hrs r hr
 have he := h r hr
 unfold Af at he
 cases hb : fn.body with
 | none => rw [hb] at he; simp at he
 | some c =>
  rw [hb] at he
  simp only at he
  obtain ⟨KL, k1, kok, k4, k6, k7⟩ := Gb 0 hA
  have k2 := kok.bs
  have hkn : (KL.map (·.k)).Nodup := by
   have := Ip hk
   rw [k1, List.map_map] at this
   exact this
  have hmem : Holds (gK S KL) (lk (KL.map KE.ent)) KL := by
   intro z hz
   have := Xmw hkn hz
   exact ⟨by rw [W6, this]; rfl, by simp [gK, this], fun a ha => by simp [gK, this, ha]⟩
  have hbkr := kok.bk (gK S KL) (lk (KL.map KE.ent)) hmem
  have hargs := k4 (gK S KL) (lk (KL.map KE.ent)) rfl hmem
  let a0 : Act := { tmps := vals.toArray ++ Array.replicate (fn.ntmps - vals.toArray.size) undef, defers := [] }
  have hstart : Rel w (gK S KL) (J6 fn as) a0.tmps [] := by
   have e1 : J6 fn as = ⟨(A6 0 as).1 ++ List.replicate (fn.ntmps - as.length) Ey, KL.map KE.ent⟩ := by unfold J6; rw [k1]
   rw [e1]
   refine Xl8 hkn (by rw [k2]; exact hnd) kok.lf (by rw [k2]; exact hS) hlt kok.cell (by rw [kok.ads]; exact hrn) (by rw [kok.ads, k2]; exact hrs) (fun t => ?_) (by simp [a0, k6, k7])
   have hv : a0.tmps.getD t undef = if t < vals.length then vals.getD t undef else undef := by
    simp only [a0, Array.getD_eq_getD_getElem?]
    by_cases ht : t < vals.length
    ·rw [if_pos ht, Array.getElem?_append_left (by simpa using ht)]
     simp
    ·rw [if_neg ht, Array.getElem?_append_right (by simp; omega)]
     simp only [Array.getElem?_replicate]
     split <;> rfl
   have hx : nthD ((A6 0 as).1 ++ List.replicate (fn.ntmps - as.length) Ey) t (.one .d) = if t < vals.length then nthD (A6 0 as).1 t (.one .d) else if t < as.length + (fn.ntmps - as.length) then Ey else .one .d := by
    rw [Bw, Bw]
    simp only [List.getD_eq_getElem?_getD]
    by_cases ht : t < vals.length
    ·rw [if_pos ht, List.getElem?_append_left (by rw [k7]; omega)]
    ·rw [if_neg ht, List.getElem?_append_right (by rw [k7]; omega), List.getElem?_replicate]
     by_cases h2 : t < as.length + (fn.ntmps - as.length)
     ·rw [if_pos h2, if_pos (by rw [k7]; omega)]; rfl
     ·rw [if_neg h2, if_neg (by rw [k7]; omega)]; rfl
   rw [hv, hx]
   by_cases ht : t < vals.length
   ·rw [if_pos ht, if_pos ht]
    exact hargs.get t (by rw [k7]; omega)
   ·rw [if_neg ht, if_neg ht]
    split
    ·exact ⟨rfl, rfl⟩
    ·exact (rfl : ([] : List Nat) = [])
  refine callsIn_wide.1 (callsIn_of_wp_marks (F := Fence.wide) (n := 0) hf hb trivial ?_ rfl)
  refine Xcu hE hm c Fence.wide 0 false (.inl rfl) (fun e => by cases e) (.inl rfl) 0 he hstart _ fun e σ' a' wz hk' ha => ?_
  obtain ⟨g', hz1, mz1, fz1, ⟨Ds, d1, dn, dp⟩, _⟩ := ha.ex
  obtain ⟨h1, m1, f1⟩ := Xh7 (w := wz) Ds wz (fun D hD => ⟨(dp D hD).1, (dp D hD).2.2⟩) hz1 mz1 fz1
  have hleave : ∀ {R : Ending → World → Prop}, (∃ v, (results fn a'.tmps).run P (Sb Ds wz) = .ok v (Sb Ds wz) ∧ R (.returned v) (Sb Ds wz)) → LeavesInM Fence.wide 0 P fn a'.tmps R a'.defers .returning wz := fun hR => by
   rw [d1, List.append_nil]
   exact My Ds wz dn (fun D hD => (dp D hD).2.1) hR
  generalize Sb Ds wz = w' at *
  have hmm : (J6 fn as).mem = lk (KL.map KE.ent) := by unfold J6 St.mem; rw [k1]
  have hown : ∀ b, Own (gK S KL) [] b → b ∈ bss.flatten := by
   rintro b (⟨k, hb⟩ | hb)
   ·simp only [gK] at hb
    cases hz : fk KL k with
    | none => rw [hz] at hb; simp at hb
    | some z =>
     rw [hz] at hb
     rw [← k2]
     exact List.mem_flatMap.2 ⟨z, (Fs hz).1, by simpa using hb⟩
   ·cases hb
  have hpn : ∀ s k, (s, k) ∈ Ea (Da 0 as) → Pn s (gK S KL) (lk (KL.map KE.ent)) g' σ'.mem k := fun s k hk => by
   have := m1.pin s k (by rw [hpin]; exact hk)
   rw [hmm] at this
   exact this
  have hfrm : ∀ q, q < w.heap.size → q ∉ bss.flatten → ObjLike (fun o => (q, o) ∈ (Mh as vals).flatMap Bk.rows) w.heap[q]? w'.heap[q]? := fun q hq hqo => by
   refine (f1 q hq fun ho => hqo (hown q ho)).imp fun o ⟨k, hk⟩ => ?_
   rw [← kok.ads]
   simp only [gK] at hk
   cases hz : fk KL k with
   | none => rw [hz] at hk; simp at hk
   | some z =>
    rw [hz] at hk
    exact List.mem_filterMap.2 ⟨z, (Fs hz).1, hk⟩
  have hSo : ∀ {g2 : Gh} {σ2 : St} {H2 : Hand}, Mv w' g' σ' [] w' g2 σ2 H2 → ∀ b, g2.S b → S b ∨ b ∈ bss.flatten ∨ w.heap.size ≤ b := fun m23 b hb => by
   rcases m23.S b hb with h3 | h3 | h3
   ·rcases m1.S b h3 with h4 | h4 | h4
    ·exact .inl h4
    ·exact .inr (.inl (hown b h4))
    ·exact .inr (.inr h4)
   ·rcases m1.own b h3 with h4 | h4
    ·exact .inr (.inl (hown b h4))
    ·exact .inr (.inr h4)
   ·have := m1.sz; exact .inr (.inr (by omega))
  have hOo : ∀ {g2 : Gh} {σ2 : St} {H2 : Hand}, Mv w' g' σ' [] w' g2 σ2 H2 → ∀ b ∈ H2.bs, b ∈ bss.flatten ∨ w.heap.size ≤ b := fun m23 b hb => by
   rcases m23.own b (.inr hb) with h3 | h3
   ·rcases m1.own b h3 with h4 | h4
    ·exact .inl (hown b h4)
    ·exact .inr h4
   ·have := m1.sz; exact .inr (by omega)
  have hfin : (Xam E fn.results.toList fn.resultTypes.toList (Da 0 as)).run E.tab σ' (fun r _ => some r) = some (cr.e r) →
    ∃ v, (results fn a'.tmps).run P w' = .ok v w' ∧ ∃ v', Ending.returned v = .returned v' ∧ Post w S (Mh as vals) bss.flatten w' (cr.e r) v' := by
   intro hx
   rcases Xcb hx with hx | ⟨t, k, n, v0, hrs3, htp, hx⟩
   ·unfold Xho at hx
    rw [run_bind] at hx
    obtain ⟨x, σ2, hres, hx⟩ := Dh hx
    simp only [run_bind] at hx
    obtain ⟨us, g2, H', r2, m2, hrs2, hv⟩ := Xs hE.ty h1 hres
    obtain ⟨yss, HB, g3, σ3, hx, r3, m3, hBH⟩ := Ks r2 hbkr (fun s k hk => (hpn s k hk).trans (m2.st.pn s k)) hx
    simp only [Pg.run, Option.some.injEq] at hx
    refine ⟨_, Qe hrs2, _, rfl, ?_⟩
    rw [← hx]
    have m23 := m2.trans m3
    obtain ⟨bbs, hbv, hbb⟩ := hBH.backs fun z hz => r3.hand z (List.mem_append_left _ hz)
    have hbs : Hand.bs (HB ++ H') = bbs.flatten ++ Hand.bs H' := by rw [Hand.bs_append, hbb]
    have hmem2 : ∀ b, b ∈ Hand.bs H' ++ bbs.flatten → b ∈ Hand.bs (HB ++ H') := fun b hb => by rw [hbs]; exact List.mem_append.2 ((List.mem_append.1 hb).symm)
    have hv' := Xbh m3.st.S hv
    have hpt : T8 x = none := by
     unfold T8
     split
     ·exact (hv' : False).elim
     ·rfl
    have hrb : resBk x (L7 us) = [] := by simp [resBk, hpt]
    refine ⟨⟨g3.S, H'.bs, bbs, by unfold ResP; rw [hpt]; exact hv', by rw [hrb, List.append_nil]; exact hbv, ?_, fun b hb hS' => (r3.st b hS').2.1 (hmem2 b hb), fun b hb => m23.st.S b (m1.st b hb), fun b hb => (r3.st b hb).2.2, hSo m23, fun b hb => hOo m23 b (hmem2 b hb), by rw [hrb]; simp⟩, m1.sz, m1.io, hfrm⟩
    have := r3.hnd
    rw [hbs] at this
    exact (List.perm_append_comm.nodup_iff).1 this
   ·unfold Xso at hx
    simp only [run_bind] at hx
    obtain ⟨hl, hx⟩ := An hx
    simp only [Bool.and_eq_true] at hl
    have hn1 := Nat.le_of_ble_eq_true hl.1
    obtain ⟨yss, HB, g2, σ2, hx, r2, m2, hBH⟩ := Ks h1 hbkr hpn hx
    rw [List.append_nil] at r2 m2
    obtain ⟨ys, hx, l1, hcs, _⟩ := Kw r2 hx
    obtain ⟨hro, hx⟩ := An hx
    simp only [Pg.run, Option.some.injEq] at hx
    have htv := h1.tmps t
    rw [htp] at htv
    obtain ⟨_, b, o, hy, had⟩ := (htv : _ ∧ _)
    refine ⟨_, Qe (us := [a'.tmps.getD t undef]) (by rw [hrs3]; exact ⟨rfl, trivial⟩), _, rfl, ?_⟩
    rw [← hx]
    simp only [L7]
    rw [hy]
    have had2 : ∀ j, j < n → g2.ad (k + j) = some (b, o + j) := fun j hj => m2.st.ad _ _ (had j hj)
    obtain ⟨bbs, hbv, hbb⟩ := hBH.backs r2.hand
    have hnil := Xhm hcs hro
    have hrb : resBk (.one (.ptr (.cell 0) n 0)) (.pointer (some ⟨b, o, none⟩)) = [.row b o n] := rfl
    have hbk2 : BacksV w' g2.S (Mh as vals ++ [.row b o n]) (yss ++ [ys]) (bbs ++ [[]]) := Li hbv ⟨⟨_, _, by simp [B7], hcs, hnil.symm, fun j u hu => by
      rw [List.getElem?_map] at hu
      have hj : j < n := by
       rcases Nat.lt_or_ge j n with hlt | hge
       ·exact hlt
       ·rw [List.getElem?_eq_none (by rw [B7]; exact hge)] at hu; simp at hu
      rw [B5 _ _ _ hj] at hu
      simp only [Option.map_some, Option.some.injEq] at hu
      subst hu
      exact (r2.cell _ _ _ (had2 j hj)).1⟩, trivial⟩
    have hfl : ([] : List Nat) ++ (bbs ++ [[]]).flatten = Hand.bs HB := by simp [hbb]
    refine ⟨⟨g2.S, [], bbs ++ [[]], ⟨⟨b, o, rfl⟩, rfl⟩, by rw [hrb]; exact hbk2, by rw [hfl]; exact r2.hnd, fun q hq hS' => (r2.st q hS').2.1 (by rw [hfl] at hq; exact hq), fun q hq => m2.st.S q (m1.st q hq), fun q hq => (r2.st q hq).2.2, hSo m2, fun q hq => hOo m2 q (by rw [hfl] at hq; exact hq), fun a ha => ?_⟩, m1.sz, m1.io, hfrm⟩
    rw [hrb] at ha
    simp only [List.flatMap_cons, List.flatMap_nil, List.append_nil, Bk.rows] at ha
    obtain ⟨j, hj, rfl⟩ := V7 ha
    obtain ⟨b1, b2, b3⟩ := r2.box _ _ _ (had2 j hj)
    refine ⟨?_, b3, by rw [hfl]; exact b2, (r2.cell _ _ _ (had2 j hj)).2⟩
    rcases m1.ad _ _ (had j hj) with ⟨k', hk'⟩ | h5
    ·exfalso
     have hin : (b, o + j) ∈ (Mh as vals).flatMap Bk.rows := by
      rw [← kok.ads]
      simp only [gK] at hk'
      cases hz : fk KL k' with
      | none => rw [hz] at hk'; simp at hk'
      | some z =>
       rw [hz] at hk'
       exact List.mem_filterMap.2 ⟨z, (Fs hz).1, hk'⟩
     obtain ⟨ks, hsub, hmap⟩ := hbkr.rows
     have : some (b, o + j) ∈ ks.map (gK S KL).ad := by rw [← hmap]; exact List.mem_map_of_mem hin
     obtain ⟨k2', hk2, hk3⟩ := List.mem_map.1 this
     obtain ⟨s', hs'⟩ := Xay (hsub.subset hk2)
     obtain ⟨e0, he0⟩ : ∃ e0, lk (KL.map KE.ent) k2' = some e0 := by
      cases hh : lk (KL.map KE.ent) k2' with
      | some e0 => exact ⟨e0, rfl⟩
      | none =>
       have := (hstart.pres k2' (by rw [hmm]; exact hh)).1
       rw [hk3] at this; cases this
     obtain ⟨_, _, c2, _⟩ := hpn s' k2' hs' e0 he0
     have : k2' = k + j := h1.inj _ _ _ (c2 _ hk3) (had j hj)
     have hkey : k + j ∈ Ay k n := List.mem_of_getElem? (B5 k n j hj)
     have h6 := List.all_eq_true.1 hl.2 _ hkey
     have h7 := List.all_eq_true.1 h6 (s', k2') (by rw [hpin]; exact hs')
     rw [this] at h7
     simp at h7
    ·exact h5
  cases e with
  | normal => exact hleave (hfin hk')
  | ret => exact hleave (hfin hk')
  | exit id => simp at hk'
end
end Go.Rf
end

section
set_option linter.unusedVariables false
set_option linter.unusedSimpArgs false
namespace Go.Rf
def asc {α : Type} : List (Nat × α) → Nat → Option α
 | [], _ => none
 | (k, a) :: r, q => cond (Nat.beq k q) (some a) (asc r q)
def Tp (P : Program) (t : Nat) : Option (Nat × Nat × Option (List Value)) := (P.info? t).map fun f => (f.size, f.bytes, f.zero.map fun z => z.cells.toList)
def Xof (P : Program) (s f : Nat) : Option (Nat × Nat × Bool) :=
 match P.underlying s with
 | some (.struct fs) => (match fs[f]? with
  | some fd => (match P.info? fd.type, P.underlying fd.type with
   | some i, some d => some (fd.offset, i.size, aggD d)
   | _, _ => none)
  | none => none)
 | _ => none
def X66 (P : Program) (t : Nat) : Option (List (Nat × Nat)) :=
 match P.underlying t with
 | some (.struct fields) => fields.toList.mapM fun f => (P.info? f.type).map fun i => (f.offset, i.size)
 | _ => none
section
variable {P : Program}
theorem Dv {t n b : Nat} {zs : List Value} (h : Tp P t = some (n, b, some zs)) : ∃ f, P.info? t = some f ∧ f.size = n ∧ f.bytes = b ∧ ∃ z, f.zero = some z ∧ z.cells.toList = zs := by
 unfold Tp at h
 cases hf : P.info? t with
 | none => rw [hf] at h; simp at h
 | some f =>
  rw [hf] at h
  simp only [Option.map_some, Option.some.injEq, Prod.mk.injEq, Option.map_eq_some_iff] at h
  obtain ⟨h1, h2, z, h3, h4⟩ := h
  exact ⟨f, rfl, h1, h2, z, h3, h4⟩
theorem TyOk.ofInt {t b eb : Nat} {k : IntKind} (h1 : Tp P t = some (1, b, some [.int k 0])) (h2 : P.underlying t = some (.int k)) : TyOk P t ⟨.int k, false, eb⟩ := by
 obtain ⟨f, a1, a2, _, z, a4, a5⟩ := Dv h1
 exact ⟨⟨f, a1, a2, z, a4, a5⟩, ⟨_, h2, rfl⟩, fun k' e _ => (by cases e; exact h2), fun e _ => (by cases e), fun e _ => (by cases e), fun e' e _ => (by cases e), fun _ e _ => (by cases e)⟩
theorem TyOk.ofBool {t b eb : Nat} (h1 : Tp P t = some (1, b, some [.bool false])) (h2 : P.underlying t = some .bool) : TyOk P t ⟨.bool, false, eb⟩ := by
 obtain ⟨f, a1, a2, _, z, a4, a5⟩ := Dv h1
 exact ⟨⟨f, a1, a2, z, a4, a5⟩, ⟨_, h2, rfl⟩, fun k' e _ => (by cases e), fun _ _ => h2, fun e _ => (by cases e), fun e' e _ => (by cases e), fun _ e _ => (by cases e)⟩
theorem TyOk.ofStr {t b eb : Nat} (h1 : Tp P t = some (1, b, some [.string ⟨#[]⟩])) (h2 : P.underlying t = some .string) : TyOk P t ⟨.str, false, eb⟩ := by
 obtain ⟨f, a1, a2, _, z, a4, a5⟩ := Dv h1
 exact ⟨⟨f, a1, a2, z, a4, a5⟩, ⟨_, h2, rfl⟩, fun k' e _ => (by cases e), fun e _ => (by cases e), fun _ _ => h2, fun e' e _ => (by cases e), fun _ e _ => (by cases e)⟩
theorem TyOk.ofSl {t te b eb : Nat} {e : Ty} (h1 : Tp P t = some (1, b, some [.slice none 0 0])) (h2 : P.underlying t = some (.slice te)) (h3 : Tp P te = some (wd e, eb, some (zv e))) (h4 : ∀ k, e = .int k → P.underlying te = some (.int k)) : TyOk P t ⟨.sl e, false, eb⟩ := by
 obtain ⟨f, a1, a2, _, z, a4, a5⟩ := Dv h1
 obtain ⟨f', b1, b2, b3, z', b4, b5⟩ := Dv h3
 exact ⟨⟨f, a1, a2, z, a4, a5⟩, ⟨_, h2, rfl⟩, fun k' e _ => (by cases e), fun e _ => (by cases e), fun e _ => (by cases e), fun e' e _ => (by cases e; exact ⟨te, f', h2, b1, b2, b3, z', b4, b5⟩), fun k' e _ => (by cases e; exact ⟨te, h2, h4 _ rfl⟩)⟩
theorem TyOk.ofAgg {t b eb : Nat} {ty : Ty} (h1 : Tp P t = some (wd ty, b, some (zv ty))) (h2 : (P.underlying t).map aggD = some true) : TyOk P t ⟨ty, true, eb⟩ := by
 obtain ⟨f, a1, a2, _, z, a4, a5⟩ := Dv h1
 have : ∃ d, P.underlying t = some d ∧ aggD d = true := by
  cases hd : P.underlying t with
  | none => rw [hd] at h2; simp at h2
  | some d => rw [hd] at h2; exact ⟨d, rfl, by simpa using h2⟩
 exact ⟨⟨f, a1, a2, z, a4, a5⟩, this, fun _ _ e => (by simp at e), fun _ e => (by simp at e), fun _ e => (by simp at e), fun _ _ e => (by simp at e), fun _ _ e => (by simp at e)⟩
theorem FldOk.of {s f o n : Nat} {g : Bool} (h : Xof P s f = some (o, n, g)) (hn : n ≠ 0) : FldOk P s f o n g := by
 unfold Xof at h
 split at h <;> try (simp at h; done)
 rename_i fs hs
 split at h <;> try (simp at h; done)
 rename_i fd hfd
 split at h <;> try (simp at h; done)
 rename_i i d hi hd
 simp only [Option.some.injEq, Prod.mk.injEq] at h
 obtain ⟨h1, h2, h3⟩ := h
 exact ⟨fs, fd, i, d, hs, hfd, h1, hi, h2, hn, hd, h3⟩
theorem BldOk.of {t n b : Nat} {zs : List Value} {fld : Nat → Option (Nat × Nat × Bool)} {pl : List (Nat × Nat)} (h1 : Tp P t = some (n, b, some zs)) (h2 : X66 P t = some pl)
  (h3 : ∀ f o n g, fld f = some (o, n, g) → pl[f]? = some (o, n)) : BldOk P t fld := by
 obtain ⟨it, a1, _, _, z, a4, _⟩ := Dv h1
 unfold X66 at h2
 split at h2 <;> try (simp at h2; done)
 rename_i fields hu
 refine ⟨fun i => pl.toArray[i]?, it, z, a1, a4, fun parts => ?_, fun f o n g h => by simpa using h3 f o n g h⟩
 simp [Program.built, a1, hu, a4, h2]
def AllT (p : Nat → TyI → Prop) : List (Nat × TyI) → Prop
 | [] => True
 | (t, i) :: r => p t i ∧ AllT p r
theorem AllT.get {p : Nat → TyI → Prop} : ∀ {l : List (Nat × TyI)} {t : Nat} {i : TyI}, AllT p l → asc l t = some i → p t i
 | [], t, i, _, h => by simp [asc] at h
 | (k, a) :: r, t, i, ⟨h1, h2⟩, h => by
  simp only [asc] at h
  cases hb : Nat.beq k t with
  | true =>
   rw [hb] at h
   have := Nat.eq_of_beq_eq_true hb
   subst this
   simp only [cond_true, Option.some.injEq] at h
   subst h
   exact h1
  | false => rw [hb] at h; exact h2.get h
abbrev Xku := List (Nat × List (Nat × Nat × Bool))
def Nc (T : Xku) (s f : Nat) : Option (Nat × Nat × Bool) := (asc T s).bind fun l => Dw l f
def Xnx (P : Program) (s : Nat) : Nat → List (Nat × Nat × Bool) → Prop
 | _, [] => True
 | f, (o, n, g) :: r => (Xof P s f = some (o, n, g) ∧ Nat.beq n 0 = false) ∧ Xnx P s (f + 1) r
theorem Vn {s : Nat} : ∀ {l : List (Nat × Nat × Bool)} {k f : Nat} {z : Nat × Nat × Bool}, Xnx P s k l → Dw l f = some z → FldOk P s (k + f) z.1 z.2.1 z.2.2
 | [], k, f, z, _, h => by cases f <;> simp [Dw] at h
 | (o, n, g) :: r, k, 0, z, ⟨⟨h1, h2⟩, _⟩, h => by
  simp only [Dw, Option.some.injEq] at h
  subst h
  exact FldOk.of h1 fun hn => by simp only at hn; rw [hn] at h2; simp at h2
 | x :: r, k, f + 1, z, ⟨_, h2⟩, h => by
  have := Vn (f := f) h2 (by simpa [Dw] using h)
  rwa [show k + 1 + f = k + (f + 1) by omega] at this
def AllF (P : Program) : Xku → Prop
 | [] => True
 | (s, l) :: r => Xnx P s 0 l ∧ AllF P r
theorem AllF.get : ∀ {T : Xku} {s f : Nat} {z : Nat × Nat × Bool}, AllF P T → Nc T s f = some z → FldOk P s f z.1 z.2.1 z.2.2
 | [], s, f, z, _, h => by simp [Nc, asc] at h
 | (k, l) :: r, s, f, z, ⟨h1, h2⟩, h => by
  simp only [Nc, asc] at h
  cases hb : Nat.beq k s with
  | true =>
   rw [hb] at h
   have := Nat.eq_of_beq_eq_true hb
   subst this
   simp only [cond_true, Option.bind_some] at h
   have := Vn h1 h
   rwa [Nat.zero_add] at this
  | false => rw [hb] at h; exact h2.get h
end
end Go.Rf
end

section
set_option linter.unusedVariables false
namespace Go.Rf
def C0 : List Nat → Code → Code
 | [], c => c
 | 0 :: p, .seq a _ => C0 p a
 | _ :: p, .seq _ b => C0 p b
 | 0 :: p, .cond _ a _ => C0 p a
 | _ :: p, .cond _ _ b => C0 p b
 | _ :: p, .block _ c => C0 p c
 | _ :: p, .loop c => C0 p c
 | 0 :: p, .rangeFunc _ _ a _ => C0 p a
 | _ :: p, .rangeFunc _ _ _ b => C0 p b
 | _, c => c
def X9t (E : Env) {β : Type} (b : Code) (i : Nat) (k : Ex → St → Option β) : Ex → St → Option β := fun e σ' =>
 match e with
 | .normal => Bl E b i σ' k
 | e => k e σ'
def X5n {β : Type} (id : Nat) (k : Ex → St → Option β) : Ex → St → Option β := fun e σ' =>
 match e with
 | .exit id' => cond (Nat.beq id' id) (k .normal σ') (k (.exit id') σ')
 | e => k e σ'
def Ap (E : Env) {β : Type} : List Nat → Code → Nat → (Ex → St → Option β) → (Ex → St → Option β)
 | [], _, _, k => k
 | 0 :: p, .seq a b, i, k => Ap E p a i (X9t E b i k)
 | _ :: p, .seq _ b, i, k => Ap E p b i k
 | 0 :: p, .cond _ a _, i, k => Ap E p a i k
 | _ :: p, .cond _ _ b, i, k => Ap E p b i k
 | _ :: p, .block id c, _, k => Ap E p c id (X5n id k)
 | _, _, _, k => k
def Bx (E : Env) {β : Type} (fn : Func) (as : List Arg) (K : A × List (List Leaf) → Option β) : Ex → St → Option β := fun e σ =>
 match e with
 | .normal | .ret => (Xam E fn.results.toList fn.resultTypes.toList (Da 0 as)).run E.tab σ fun r _ => K r
 | _ => none
def Ar (fn : Func) : Code := fn.body.getD .skip
end Go.Rf
end

section
set_option linter.unusedVariables false
set_option linter.unusedSimpArgs false
namespace Go.Rf
def U0 (P : Program) (rec : TypeId → Option Ty) : Nat → List Field → Option Ty
  | _, [] => none
  | o, f :: r => match rec f.type with
    | none => none
    | some a => cond (Nat.beq f.offset o && Nat.beq (P.cellsOf f.type) (wd a))
      (match r with
       | [] => some a
       | _ => (match U0 P rec (o + wd a) r with | some b => some (.pair a b) | none => none)) none
def H8 (P : Program) : Nat → TypeId → Option Ty
 | 0, _ => none
 | n + 1, t => match P.underlying t with
  | some .bool => some .bool
  | some (.int k) => some (.int k)
  | some .string => some .str
  | some (.struct fs) => (match U0 P (H8 P n) 0 fs.toList with
   | some ty => cond (Nat.beq (P.cellsOf t) (wd ty)) (some ty) none
   | none => none)
  | some (.slice e) => (match H8 P n e with
   | some te => cond (Nat.beq (P.cellsOf e) (wd te)) (some (.sl te)) none
   | none => none)
  | _ => none
def Wf : (t : Ty) → den t → Prop
 | .int k, n => (Lit.int k n).wf = true
 | .bool, _ => True
 | .str, s => s.size ≤ maxLen
 | .sl e, l => l.length ≤ maxLen ∧ ∀ x ∈ l, Wf e x
 | .pair a b, x => Wf a x.1 ∧ Wf b x.2
section
variable {H : Type} {enc : TypeId × Value → H} {P : Program} {w : World} {base : Nat} {spare : Nat → Bool} {held : Bool}
theorem Xs2 {a b : Nat} (h : Nat.beq a b = true) : a = b := Nat.eq_of_beq_eq_true h
theorem Xha {S : Nat → Prop} {m : Mode} (rec : TypeId → Option Ty) (Q : TypeId → List Value → Prop)
  (ih : ∀ t ty cs, rec t = some ty → Bc ty = false → Q t cs → ∃ v : den ty, Rd w S ty m v cs [] ∧ Wf ty v) :
  ∀ (fs : List Field) (o : Nat) (ty : Ty) (cs : List Value), U0 P rec o fs = some ty → Bc ty = false → cs.length = o + wd ty →
   (∀ f ∈ fs, Q f.type ((cs.drop f.offset).take (P.cellsOf f.type))) → ∃ v : den ty, Rd w S ty m v (cs.drop o) [] ∧ Wf ty v
 | [], _, _, _, h, _, _, _ => by simp [U0] at h
 | f :: r, o, ty, cs, h, hs, hl, hq => by
  simp only [U0] at h
  cases ha : rec f.type with
  | none => rw [ha] at h; simp at h
  | some a =>
   rw [ha] at h
   simp only at h
   cases hb : (Nat.beq f.offset o && Nat.beq (P.cellsOf f.type) (wd a)) with
   | false => rw [hb] at h; simp at h
   | true =>
    rw [hb, cond_true] at h
    rw [Bool.and_eq_true] at hb
    have e1 := Xs2 hb.1
    have e2 := Xs2 hb.2
    have hf := hq f (by simp)
    rw [e1, e2] at hf
    cases r with
    | nil =>
     simp only [Option.some.injEq] at h
     subst h
     obtain ⟨v, h1, h2⟩ := ih _ _ _ ha hs hf
     refine ⟨v, ?_, h2⟩
     rwa [List.take_of_length_le (by simp; omega)] at h1
    | cons g r =>
     simp only at h
     cases hr : U0 P rec (o + wd a) (g :: r) with
     | none => rw [hr] at h; simp at h
     | some b =>
      rw [hr] at h
      simp only [Option.some.injEq] at h
      subst h
      simp only [Bc, Bool.or_eq_false_iff] at hs
      simp only [wd] at hl
      obtain ⟨v, h1, h2⟩ := ih _ _ _ ha hs.1 hf
      obtain ⟨u, h3, h4⟩ := Xha rec Q ih (g :: r) (o + wd a) b cs hr hs.2 (by omega) (fun x hx => hq x (List.mem_cons_of_mem _ hx))
      refine ⟨(v, u), ⟨_, _, [], [], ?_, rfl, h1, h3⟩, h2, h4⟩
      rw [← List.drop_drop]
      exact (List.take_append_drop _ _).symm
theorem Vp {S : Nat → Prop} {m : Mode} : ∀ (n : Nat) (t : TypeId) (ty : Ty) (fuel : Nat) (cs : List Value) (x : DataW H × List MemPlace), H8 P n t = some ty → Bc ty = false →
  DataW.trod enc P w base spare held fuel t cs = some x → ∃ v : den ty, Rd w S ty m v cs [] ∧ Wf ty v
 | 0, t, ty, fuel, cs, x, h, _, _ => by simp [H8] at h
 | n + 1, t, ty, fuel, cs, x, h, hs, hx => by
  unfold H8 at h
  split at h
  ·rename_i hu
   simp only [Option.some.injEq] at h
   subst h
   obtain ⟨b, rfl, _⟩ := DataW.trod_bool hu hx
   exact ⟨b, ⟨rfl, rfl⟩, trivial⟩
  ·rename_i k hu
   simp only [Option.some.injEq] at h
   subst h
   obtain ⟨b, rfl, _, hw⟩ := DataW.trod_int hu hx
   exact ⟨b, ⟨rfl, rfl⟩, hw⟩
  ·rename_i hu
   simp only [Option.some.injEq] at h
   subst h
   obtain ⟨b, rfl, _, hw⟩ := DataW.trod_string hu hx
   exact ⟨b, ⟨rfl, rfl⟩, hw⟩
  ·rename_i fs hu
   split at h <;> try (simp at h; done)
   rename_i ty' hf
   cases hb : Nat.beq (P.cellsOf t) (wd ty') with
   | false => rw [hb] at h; simp at h
   | true =>
    rw [hb, cond_true, Option.some.injEq] at h
    subst h
    obtain ⟨xs, k, rfl, _, hl, hlen, hel⟩ := DataW.trod_struct hu hx
    have := Xha (w := w) (S := S) (m := m) (P := P) (H8 P n) (fun t cs => ∃ x, DataW.trod enc P w base spare held k t cs = some x)
     (fun t ty cs h1 h2 ⟨x, h3⟩ => Vp n t ty k cs x h1 h2 h3) fs.toList 0 ty' cs hf hs (by rw [hl, Xs2 hb]; omega) (fun f hf' => by
      obtain ⟨i, hi, hi'⟩ := List.getElem_of_mem hf'
      simp only [Array.length_toList] at hi
      have hfi : fs[i]? = some f := by rw [Array.getElem?_eq_getElem hi]; simpa using hi'
      have := hel i f hfi
      rw [List.getElem?_eq_getElem (by omega)] at this
      exact ⟨_, this⟩)
    simpa using this
  ·rename_i e hu
   split at h <;> try (simp at h; done)
   rename_i te he
   cases hb : Nat.beq (P.cellsOf e) (wd te) with
   | false => rw [hb] at h; simp at h
   | true =>
    rw [hb, cond_true, Option.some.injEq] at h
    subst h
    simp [Bc] at hs
  ·simp at h
theorem Xjq {a : Addr} {n : Nat} {cs : List Value} (h : w.cells? base a n = some cs) : cs.length = n ∧ ∀ j, j < n → w.cell? (a.add j) = cs[j]? := by
 unfold World.cells? at h
 split at h
 ·exact ⟨by simpa using mapM_some_length h, fun j hj => by simpa using mapM_some_get h j j (by simp [hj])⟩
 ·simp at h
theorem trod_slice {t e : TypeId} {te : Ty} {n fuel : Nat} {a : Option Addr} {len cap : Nat} {x : DataW H × List MemPlace} (ht : P.underlying t = some (.slice e))
  (he : H8 P n e = some te) (hs : Bc te = false) (hc : P.cellsOf e = wd te) (hp : 0 < wd te) (hsp : ∀ b, a = some b → b.spot = none)
  (h : DataW.trod enc P w base spare held fuel t [.slice a len cap] = some x) :
  ∃ l : List (den te), l.length = len ∧ Rd w (fun b => b < w.heap.size) (.sl te) .ro l [.slice a len cap] [] ∧ Wf (.sl te) l := by
 rcases DataW.trod_slice ht h with ⟨hcs, _⟩ | ⟨ad, len', cap', elems, rest, k, rfl, hcs, _, hb, hl, hcm, hlen, hel, _⟩
 ·simp only [List.cons.injEq, Value.slice.injEq, and_true] at hcs
  obtain ⟨rfl, rfl, rfl⟩ := hcs
  exact ⟨[], rfl, ⟨_, rfl, none, 0, rfl, Nat.le_refl _, fun h => (by cases h), .inl ⟨.inl rfl, rfl, rfl, rfl⟩⟩, Nat.zero_le _, fun x hx => by simp at hx⟩
 ·simp only [List.cons.injEq, Value.slice.injEq, and_true] at hcs
  obtain ⟨rfl, rfl, rfl⟩ := hcs
  obtain ⟨b, o, sp⟩ := ad
  have : sp = none := hsp _ rfl
  subst this
  have hrow : ∀ i, i < len → ∃ v : den te, ∃ vs : List Value, vs.length = wd te ∧ (∀ j, j < wd te → cellAt w b (o + i * wd te + j) = vs[j]?) ∧ Rd w (fun b => b < w.heap.size) te .ro v vs [] ∧ Wf te v := by
   intro i hi
   have h1 := hel i hi
   rw [List.getElem?_eq_getElem (by omega)] at h1
   simp only [Option.bind_eq_some_iff] at h1
   obtain ⟨cs, h2, h3⟩ := h1
   rw [hc] at h2
   obtain ⟨h4, h5⟩ := Xjq h2
   obtain ⟨v, h6, h7⟩ := Vp (S := fun b => b < w.heap.size) (m := .ro) n e te k cs _ he hs h3
   refine ⟨v, cs, h4, fun j hj => ?_, h6, h7⟩
   rw [← h5 j hj]
   unfold cellAt
   have : ((⟨b, o, none⟩ : Addr).add (i * wd te)).add j = ⟨b, o + i * wd te + j, none⟩ := by
    unfold Addr.add
    split <;> split <;> simp_all
   rw [this]
  let f : Nat → den te := fun i => if h : i < len then (hrow i h).choose else Be te
  have hf : ∀ i (h : i < len), f i = (hrow i h).choose := fun i h => by simp [f, h]
  refine ⟨(List.range len).map f, by simp, ⟨_, rfl, some ⟨b, o, none⟩, cap, by simp, by simpa using hl, fun h => (by cases h), .inr ⟨b, o, List.replicate len [], rfl, by simp, fun h => (by cases h), fun _ => ⟨rfl, by simp, fun hne => ?_⟩, fun i h => (by cases h), fun i x b' _ hx hb' => ?_⟩⟩, ?_, fun x hx => ?_⟩
  ·have hpos : 0 < len := by
    cases len with
    | zero => simp at hne
    | succ _ => omega
   obtain ⟨v, vs, h1, h2, _⟩ := hrow 0 hpos
   have := h2 0 hp
   rw [List.getElem?_eq_getElem (by omega)] at this
   unfold cellAt World.cell? at this
   simp only at this
   cases hh : w.heap[b]? with
   | none => rw [hh] at this; simp at this
   | some z => exact (Array.getElem?_eq_some_iff.1 hh).1
  ·simp only [List.getElem?_map, Option.map_eq_some_iff] at hx
   obtain ⟨i', hi', rfl⟩ := hx
   have hi : i < len := by
    rcases Nat.lt_or_ge i len with hlt | hge
    ·exact hlt
    ·rw [List.getElem?_replicate, if_neg (by omega)] at hb'
     simp at hb'
   have : i = i' := by
    rw [List.getElem?_range hi] at hi'
    simpa using hi'
   subst this
   rw [List.getElem?_replicate, if_pos hi, Option.some.injEq] at hb'
   subst hb'
   rw [hf i hi]
   obtain ⟨vs, h1, h2, h3, _⟩ := (hrow i hi).choose_spec
   exact ⟨vs, h1, h2, h3⟩
  ·simp; omega
  ·simp only [List.mem_map, List.mem_range] at hx
   obtain ⟨i, hi, rfl⟩ := hx
   rw [hf i hi]
   obtain ⟨vs, _, _, _, h4⟩ := (hrow i hi).choose_spec
   exact h4
theorem Xak {e : TypeId} {t : TypeId} {r : Reach} {a : Option Addr} {len cap : Nat} (ht : P.underlying t = some (.slice e)) (h : Value.okWide P w r base t (.slice a len cap)) : ∀ b, a = some b → b.spot = none := by
 rintro b rfl
 simp only [Value.okWide, ht, Cell.okWide, Cell.ok] at h
 exact h.2.2.2.1
theorem Xkv {t e : TypeId} {a : Option Addr} {len cap : Nat} {d : DataW H} {ps : List MemPlace} {ts : List TypeId} {ds : List (DataW H)} {j : Nat}
  (hsz : (DataW.weightsEach P ts ds).all (· ≤ reachBytes) = true) (ht : ts[j]? = some t) (hd : ds[j]? = some d) (hu : P.underlying t = some (.slice e)) {B : Nat} (hB : P.bytesOf e = B)
  (h : DataW.Trod enc P w base spare held t (.slice a len cap) d ps) : len * B ≤ 140737488351232 := by
 obtain ⟨fuel, hf⟩ := h
 rcases DataW.trod_slice hu hf with ⟨hcs, _⟩ | ⟨ad, len', cap', elems, rest, k, rfl, hcs, hx, hb, hl, hcm, hlen, hel, _⟩
 ·simp [Value.cells] at hcs
  obtain ⟨rfl, rfl, rfl⟩ := hcs
  simp
 ·simp [Value.cells] at hcs
  obtain ⟨rfl, rfl, rfl⟩ := hcs
  simp only [Prod.mk.injEq] at hx
  obtain ⟨rfl, _⟩ := hx
  have z := sized_slice hsz ht hd hu
  rw [hB] at z
  simp only [List.length_map] at z
  have : len * B ≤ (elems.length + rest.length) * B := Nat.mul_le_mul_right _ (by omega)
  exact Nat.le_trans this z
end
end Go.Rf
end

section
set_option linter.unusedVariables false
set_option linter.unusedSimpArgs false
namespace Go.Rf
section
variable {P : Program}
theorem Xjh {f : Nat} {as : List Arg} {cr : CR} (hC : Contract P f as cr) {vals : List Value} {bss : List (List Nat)} {w : World}
  (hA : ArgsV w (fun b => b < w.heap.size) as vals bss) (hb : bss.flatten = []) (hk : Mh as vals = []) {r : cr.R} (hr : cr.o = some r) (he : (cr.e r).1 = .one (.v (.bool true))) :
  Calls P f vals.toArray w fun e w' => e = .returned (.bool true) ∧ Go.RowKit.Below w.heap.size w w' := by
 refine (hC w (fun b => b < w.heap.size) vals bss hA (by rw [hb]; exact List.nodup_nil) (by rw [hb]; simp) (fun b h => h) (by rw [hk]; exact List.nodup_nil) (by rw [hk]; simp) r hr).mono ?_
 rintro e w' ⟨v, rfl, hp⟩
 obtain ⟨S', bs, bbs, hv, _⟩ := hp.ex
 rw [he] at hv
 have hv : v = .bool true ∧ bs = [] := hv
 obtain ⟨rfl, _⟩ := hv
 refine ⟨rfl, hp.io.os, hp.io.tape, hp.io.output, hp.sz, fun k hk' => (hp.frm k hk' (by rw [hb]; simp)).eq fun j => by rw [hk]; simp⟩
structure TysOk (P : Program) (E : Env) : Prop where
 ty : ∀ t i, E.ty t = some i → TyOk P t i
 fld : ∀ s f z, E.fld s f = some z → FldOk P s f z.1 z.2.1 z.2.2
 bld : ∀ t i, E.ty t = some i → i.agg = true → BldOk P t (E.fld t)
 eq : ∀ t i, E.eqt t = true → E.ty t = some i → EqOk P t i.ty
 itr : ∀ z ∈ E.itr, ItMk P z.1 z.2.1 ∧ ItOk P z.2.1 z.2.2
structure TabFn (P : Program) (tab : Tab) : Prop where
 ok : TabOk P tab
 fn : ∀ f as cr, tab f as = some cr → FnOk P f
theorem EnvOk.of {E : Env} (h : TysOk P E) (t : TabFn P E.tab) : EnvOk P E := ⟨h.ty, h.fld, h.bld, h.eq, t.ok, t.fn, h.itr⟩
theorem TabFn.none : TabFn P (fun _ _ => Option.none) := ⟨fun _ _ _ h => (by cases h), fun _ _ _ h => (by cases h)⟩
def fnCk (P : Program) (f : Nat) : Bool := match P.funcs[f]? with
 | some fn => !(fn.name == "runtime.NumGoroutine") && fn.body.isSome
 | none => false
theorem FnOk.of {f : Nat} (h : fnCk P f = true) : FnOk P f := by
 unfold fnCk at h
 split at h
 ·rename_i fn hf
  simp only [Bool.and_eq_true, Bool.not_eq_true', Option.isSome_iff_ne_none] at h
  refine ⟨fn, hf, h.1, ?_⟩
  cases hb : fn.body with
  | none => exact absurd hb h.2
  | some _ => rfl
 ·simp at h
theorem D6 {T : Xku} {t : Nat} {row : List (Nat × Nat × Bool)} (h0 : asc T t = some row) (h1 : ((P.info? t).bind fun f => f.zero).isSome = true) (h2 : X66 P t = some (row.map fun z => (z.1, z.2.1))) : BldOk P t (Nc T t) := by
 obtain ⟨z, hz⟩ := Option.isSome_iff_exists.1 h1
 obtain ⟨i, hi, hz⟩ := Option.bind_eq_some_iff.1 hz
 have hty : Tp P t = some (i.size, i.bytes, some z.cells.toList) := by simp [Tp, hi, hz]
 refine BldOk.of hty h2 fun f o n g h => ?_
 unfold Nc at h
 rw [h0, Option.bind_some] at h
 have : ∀ (l : List (Nat × Nat × Bool)) (f : Nat), Dw l f = some (o, n, g) → (l.map fun z => (z.1, z.2.1))[f]? = some (o, n) := by
  intro l
  induction l with
  | nil => intro f h; cases f <;> simp [Dw] at h
  | cons z r ih =>
   intro f h
   cases f with
   | zero => simp only [Dw, Option.some.injEq] at h; subst h; rfl
   | succ f => simpa [Dw] using ih f (by simpa [Dw] using h)
 exact this row f h
theorem Ab {E : Env} (hE : EnvOk P E) (hm : P.follows .mixedOrders = true) {f : Nat} {fn : Func} {as : List Arg} {R : Type} {o : Option R} {e : R → A × List (List Leaf)} (hf : P.funcs[f]? = some fn)
  (hk : Pw ((A6 0 as).2.map (·.1)) = true) (hpin : E.pins = Ea (Da 0 as)) (h : Af E fn as some = o.bind fun r => some (e r)) : Contract P f as ⟨o, e⟩ :=
 Pe hE hm hf hk hpin fun r hr => by
  rw [h]
  simp only at hr
  rw [hr]
  rfl
end
end Go.Rf
end

section
set_option linter.unusedVariables false
namespace Go.Rf
def Aw {t : Ty} (l : List (den t)) (i : Int) : den t := nthD l i.toNat (Be t)
def A7 (E : Env) {β : Type} (fn : Func) (p : List Nat) (i : Nat) (KK : Ex → St → Option β) (n : Nat) (σ : St) : Option β :=
 Sx (Fp E i) (fun σ' k' => Bl E (C0 (p ++ [0]) (Ar fn)) i σ' k') KK n σ
def Fa (E : Env) {β : Type} (fn : Func) (p : List Nat) (i pt : Nat) (KK : Ex → St → Option β) {u : Ty} (l : List (List (den u))) (σ : St) : Option β :=
 Lq (Fp E i) (fun z σ' k' => Bl E (C0 (p ++ [0]) (Ar fn)) i (σ'.setT pt (.one z)) fun e σ'' => match e with | .normal => Bl E (C0 (p ++ [1]) (Ar fn)) i σ'' k' | _ => none) KK l σ
def Xd (E : Env) {β : Type} (fn : Func) (p : List Nat) (i : Nat) (KK : Ex → St → Option β) (n : Nat) : Ex → St → Option β := fun e σ' =>
 match e with
 | .normal => Fp E i σ' (A7 E fn p i KK n)
 | e => KK e σ'
theorem Xjn {α β : Type} (b : Bool) (x y : Option α) (f : α → Option β) : (cond b x y).bind f = cond b (x.bind f) (y.bind f) := by cases b <;> rfl
def sto {α : Type} (a : α) : Option α := some a
end Go.Rf
end

section
set_option linter.unusedVariables false
namespace Go.Rf
open Go.IntWalk
theorem Xcp {α : Type} : ∀ (l : List α) (j : Nat) (d : α) (h : j < l.length), nthD l j d = l[j]
 | [], j, d, h => by simp at h
 | a :: r, 0, d, h => rfl
 | a :: r, j + 1, d, h => by simpa [nthD] using Xcp r j d (by simpa using h)
theorem Av {t : Ty} (l : List (den t)) (j : Nat) (h : j < l.length) : Aw l (j : Int) = l[j] := Xcp l j _ h
theorem F6 (j : Nat) (h : j < 2 ^ 62) : IntKind.i64.wrap ((j : Int) + 1) = ((j + 1 : Nat) : Int) := by
 rw [i64_in _ (by omega)]; rfl
end Go.Rf
end

section
set_option linter.unusedVariables false
set_option linter.unusedSimpArgs false
namespace Go.Rf
def Qj (P : Program) (t : TypeId) (ty : Ty) (x : den ty) : Value :=
 match P.underlying t with
 | some (.struct _) => .agg (encV ty x).toArray
 | _ => (encV ty x).headD undef
def Xjj (P : Program) : Nat → TypeId → Bool
 | 0, _ => false
 | n + 1, t => match P.underlying t with
  | some .bool => true
  | some (.int _) => true
  | some .string => true
  | some (.struct fs) => !P.stoodInHeld t && fs.toList.all fun f => !(f.name == "_") && (P.info? f.type).isSome && Xjj P n f.type
  | _ => false
section
variable {P : Program} {w : World}
theorem Il : ∀ (ty : Ty) (x : den ty), Bc ty = false → (encV ty x).length = wd ty
 | .int _, _, _ => rfl
 | .bool, _, _ => rfl
 | .str, _, _ => rfl
 | .sl _, _, h => by simp [Bc] at h
 | .pair a b, x, h => by
  simp only [Bc, Bool.or_eq_false_iff] at h
  simp [encV, wd, Il a x.1 h.1, Il b x.2 h.2]
theorem Q9 {t : TypeId} {n : Nat} {ty : Ty} {x : den ty} {pre suf : List Value} {o : Nat} (hty : H8 P n t = some ty) (hs : Bc ty = false) (hsz : P.cellsOf t = wd ty) (hi : (P.info? t).isSome = true) (ho : pre.length = o) :
  (part t (pre ++ (encV ty x ++ suf)).toArray o).run P w = .ok (Qj P t ty x) w := by
 subst ho
 obtain ⟨i, hi⟩ := Option.isSome_iff_exists.1 hi
 have hsz' : i.size = wd ty := by simpa [Program.cellsOf, hi] using hsz
 have hlen := Il ty x hs
 cases n with
 | zero => simp [H8] at hty
 | succ n =>
  have hone : wd ty = 1 → ∀ d, P.underlying t = some d → aggD d = false → (part t (pre ++ (encV ty x ++ suf)).toArray pre.length).run P w = .ok ((encV ty x).headD undef) w := fun h1 d hd ha => by
   rw [h1] at hlen
   match hh : encV ty x, hlen with
   | [v], _ => simp [part, Dq hd, ha]
  unfold H8 at hty
  unfold Qj
  split at hty
  ·rename_i hu
   simp only [Option.some.injEq] at hty; subst hty
   rw [hu]; exact hone rfl _ hu rfl
  ·rename_i k hu
   simp only [Option.some.injEq] at hty; subst hty
   rw [hu]; exact hone rfl _ hu rfl
  ·rename_i hu
   simp only [Option.some.injEq] at hty; subst hty
   rw [hu]; exact hone rfl _ hu rfl
  ·rename_i fs hu
   rw [hu]
   simp [part, Dq hu, aggD, Bn hi, hsz']
   rw [← hlen, List.take_left]
  ·rename_i e hu
   exfalso
   split at hty <;> try (simp at hty; done)
   rename_i te he
   cases hb : Nat.beq (P.cellsOf e) (wd te) with
   | false => rw [hb] at hty; simp at hty
   | true => rw [hb, cond_true, Option.some.injEq] at hty; subst hty; simp [Bc] at hs
  ·simp at hty
theorem Qg {d n : Nat} (ih : ∀ t ty (a b : den ty), H8 P n t = some ty → Xjj P n t = true → Bc ty = false → (Op.equalIn d t (Qj P t ty a) (Qj P t ty b)).run P w = .ok (eqD ty a b) w) :
  ∀ (fs : List Field) (o : Nat) (ty : Ty) (a b : den ty) (pa pb : List Value), U0 P (H8 P n) o fs = some ty → Bc ty = false → (fs.all fun f => !(f.name == "_") && (P.info? f.type).isSome && Xjj P n f.type) = true → pa.length = o → pb.length = o →
   (Op.eqFields d (pa ++ encV ty a).toArray (pb ++ encV ty b).toArray fs).run P w = .ok (eqD ty a b) w
 | [], _, _, _, _, _, _, h, _, _, _, _ => by simp [U0] at h
 | f :: r, o, ty, a, b, pa, pb, h, hs, hc, hpa, hpb => by
  simp only [List.all_cons, Bool.and_eq_true, Bool.not_eq_true'] at hc
  obtain ⟨⟨⟨hnm, hinf⟩, hck⟩, hcr⟩ := hc
  have hn' : f.name ≠ "_" := by simpa using hnm
  simp only [U0] at h
  cases ha : H8 P n f.type with
  | none => rw [ha] at h; simp at h
  | some ta =>
   rw [ha] at h
   simp only at h
   cases hb : (Nat.beq f.offset o && Nat.beq (P.cellsOf f.type) (wd ta)) with
   | false => rw [hb] at h; simp at h
   | true =>
    rw [hb, cond_true] at h
    rw [Bool.and_eq_true] at hb
    have e1 := Xs2 hb.1
    have e2 := Xs2 hb.2
    cases r with
    | nil =>
     simp only [Option.some.injEq] at h
     subst h
     have p1 := Q9 (w := w) (x := a) (suf := []) ha hs e2 hinf hpa
     have p2 := Q9 (w := w) (x := b) (suf := []) ha hs e2 hinf hpb
     rw [List.append_nil] at p1 p2
     rw [Op.eqFields]
     simp only [if_pos hn', Sem.run_bind, e1, p1, p2, ih _ _ a b ha hck hs, Result.andThen_ok]
     cases eqD ta a b <;> simp [Op.eqFields]
    | cons g r =>
     simp only at h
     cases hr : U0 P (H8 P n) (o + wd ta) (g :: r) with
     | none => rw [hr] at h; simp at h
     | some tb =>
      rw [hr] at h
      simp only [Option.some.injEq] at h
      subst h
      simp only [Bc, Bool.or_eq_false_iff] at hs
      have p1 := Q9 (w := w) (x := a.1) (suf := encV tb a.2) ha hs.1 e2 hinf hpa
      have p2 := Q9 (w := w) (x := b.1) (suf := encV tb b.2) ha hs.1 e2 hinf hpb
      have l1 := Il ta a.1 hs.1
      have l2 := Il ta b.1 hs.1
      have q := Qg ih (g :: r) (o + wd ta) tb a.2 b.2 (pa ++ encV ta a.1) (pb ++ encV ta b.1) hr hs.2 hcr (by simp [hpa, l1]) (by simp [hpb, l2])
      rw [List.append_assoc, List.append_assoc] at q
      rw [Op.eqFields]
      simp only [encV]
      simp only [if_pos hn', Sem.run_bind, e1, p1, p2, ih _ _ a.1 b.1 ha hck hs.1, Result.andThen_ok]
      simp only [eqD]
      cases eqD ta a.1 b.1
      ·simp
      ·simpa using q
theorem S7 : ∀ (n : Nat) (d : Nat) (t : TypeId) (ty : Ty) (a b : den ty), n ≤ d → H8 P n t = some ty → Xjj P n t = true → Bc ty = false →
  (Op.equalIn d t (Qj P t ty a) (Qj P t ty b)).run P w = .ok (eqD ty a b) w
 | 0, d, t, ty, a, b, _, h, _, _ => by simp [H8] at h
 | n + 1, 0, t, ty, a, b, hd, h, _, _ => by omega
 | n + 1, d + 1, t, ty, a, b, hd, h, hc, hs => by
  unfold H8 at h
  unfold Xjj at hc
  unfold Qj
  split at h
  ·rename_i hu
   simp only [Option.some.injEq] at h; subst h
   rw [hu]
   exact run_equalIn_bool w d t a b hu
  ·rename_i k hu
   simp only [Option.some.injEq] at h; subst h
   rw [hu]
   exact run_equalIn_int w d t k k a b hu
  ·rename_i hu
   simp only [Option.some.injEq] at h; subst h
   rw [hu]
   exact run_equalIn_string w d t a b hu
  ·rename_i fs hu
   split at h <;> try (simp at h; done)
   rename_i ty' hf
   cases hb : Nat.beq (P.cellsOf t) (wd ty') with
   | false => rw [hb] at h; simp at h
   | true =>
    rw [hb, cond_true, Option.some.injEq] at h
    subst h
    rw [hu] at hc ⊢
    simp only [Bool.and_eq_true, Bool.not_eq_true'] at hc
    have hfo : P.fieldsOf t = fs := by simp [Program.fieldsOf, hu]
    rw [run_equalIn_struct (P := P) w d t _ _ (by rw [hfo]; exact hu) hc.1, hfo]
    have := Qg (w := w) (fun t ty a b h1 h2 h3 => S7 n d t ty a b (by omega) h1 h2 h3) fs.toList 0 ty' a b [] [] hf hs hc.2 rfl rfl
    simpa using this
  ·rename_i e hu
   rw [hu] at hc
   simp at hc
  ·simp at h
theorem EqOk.of {t : TypeId} {ty : Ty} {n : Nat} (hn : n ≤ 10000) (h1 : H8 P n t = some ty) (h2 : Xjj P n t = true) (h3 : Bc ty = false) (h4 : P.eqGuardType P.depth t = false) (h5 : (match P.underlying t with | some (.struct _) => true | _ => false) = true) : EqOk P t ty := by
 refine ⟨h4, fun w a b => ?_⟩
 have := S7 (w := w) n 10000 t ty a b hn h1 h2 h3
 unfold Qj at this
 cases hu : P.underlying t with
 | none => rw [hu] at h5; simp at h5
 | some d =>
  rw [hu] at this h5
  cases d <;> simp at h5
  exact this
end
end Go.Rf
end

section
set_option linter.unusedVariables false
set_option linter.unusedSimpArgs false
namespace Go.Rf
def dz : Nat → List A → List A
 | 0, r => r
 | n + 1, r => .one .d :: dz n r
inductive LK where
 | int (k : IntKind) | bool | str | sl (m : Mode) (t : Ty) | nil
@[reducible] def LK.T : LK → Type
 | .int _ => Int
 | .bool => Bool
 | .str => ByteArray
 | .sl _ t => List (den t)
 | .nil => Unit
def LK.put : (k : LK) → k.T → Leaf
 | .int k, n => .v (.int k n)
 | .bool, b => .v (.bool b)
 | .str, s => .v (.string s)
 | .sl m t, l => .s m t l
 | .nil, _ => .v (.slice none 0 0)
def Ts : Mode → Mode → Bool
 | .own, .own => true
 | .sown, .sown => true
 | .ro, .ro => true
 | .rox, .rox => true
 | _, _ => false
theorem Sv {a b : Mode} (h : Ts a b = true) : a = b := by cases a <;> cases b <;> first | rfl | cases h
def LK.get : (k : LK) → Leaf → Option k.T
 | .int k, .v (.int k' n) => cond (ikb k k') (some n) none
 | .bool, .v (.bool b) => some b
 | .str, .v (.string s) => some s
 | .sl m t, .s m' t' l => cond (Ts m m') (if h : t' = t then some (h ▸ l) else none) none
 | .nil, .v (.slice none 0 0) => some ()
 | _, _ => none
theorem LK.get_put {k : LK} {x : Leaf} {a : k.T} (h : k.get x = some a) : x = k.put a := by
 unfold LK.get at h
 split at h
 ·rename_i k k' n
  cases hk : ikb k k' with
  | false => rw [hk] at h; simp at h
  | true =>
   rw [hk] at h
   simp only [cond_true, Option.some.injEq] at h
   subst h
   rw [L5 hk]; rfl
 ·simp only [Option.some.injEq] at h; subst h; rfl
 ·simp only [Option.some.injEq] at h; subst h; rfl
 ·rename_i m t m' t' l
  cases hk : Ts m m' with
  | false => rw [hk] at h; simp at h
  | true =>
   rw [hk] at h
   simp only [cond_true] at h
   split at h
   ·rename_i ht
    subst ht
    simp only [Option.some.injEq] at h
    subst h
    rw [Sv hk]; rfl
   ·simp at h
 ·simp only [Option.some.injEq] at h; rfl
 ·simp at h
inductive XK where
 | l (k : LK) | b (k : LK) | fn (f : Nat)
@[reducible] def XK.T : XK → Type
 | .l k => k.T
 | .b k => k.T
 | .fn _ => Unit
def XK.put : (k : XK) → k.T → XL
 | .l k, a => .l (k.put a)
 | .b k, a => .b (k.put a)
 | .fn f, _ => .fn f []
def XK.get : (k : XK) → XL → Option k.T
 | .l k, .l x => k.get x
 | .b k, .b x => k.get x
 | .fn f, .fn f' [] => cond (Nat.beq f f') (some ()) none
 | _, _ => none
theorem XK.get_put {k : XK} {x : XL} {a : k.T} (h : k.get x = some a) : x = k.put a := by
 unfold XK.get at h
 split at h
 ·rw [LK.get_put h]; rfl
 ·rw [LK.get_put h]; rfl
 ·rename_i f f'
  cases hf : Nat.beq f f' with
  | false => rw [hf] at h; simp at h
  | true => rw [Nat.eq_of_beq_eq_true hf]; rfl
 ·simp at h
@[reducible] def LsT : List LK → Type
 | [] => Unit
 | k :: r => k.T × LsT r
def LsT.put : (ks : List LK) → LsT ks → List Leaf
 | [], _ => []
 | k :: r, x => k.put x.1 :: LsT.put r x.2
def LsT.get : (ks : List LK) → List Leaf → Option (LsT ks)
 | [], [] => some ()
 | k :: r, x :: xs => match k.get x with
  | some a => (match LsT.get r xs with | some b => some (a, b) | none => none)
  | none => none
 | _, _ => none
theorem LsT.get_put : ∀ {ks : List LK} {xs : List Leaf} {a : LsT ks}, LsT.get ks xs = some a → xs = LsT.put ks a
 | [], [], _, _ => rfl
 | k :: r, x :: xs, a, h => by
  simp only [LsT.get] at h
  split at h
  ·rename_i y hy
   split at h
   ·rename_i z hz
    simp only [Option.some.injEq] at h
    subst h
    rw [LK.get_put hy, LsT.get_put hz]; rfl
   ·simp at h
  ·simp at h
 | [], _ :: _, _, h => by simp [LsT.get] at h
 | _ :: _, [], _, h => by simp [LsT.get] at h
@[reducible] def XsT : List XK → Type
 | [] => Unit
 | k :: r => k.T × XsT r
def XsT.put : (ks : List XK) → XsT ks → List XL
 | [], _ => []
 | k :: r, x => k.put x.1 :: XsT.put r x.2
def XsT.get : (ks : List XK) → List XL → Option (XsT ks)
 | [], [] => some ()
 | k :: r, x :: xs => match k.get x with
  | some a => (match XsT.get r xs with | some b => some (a, b) | none => none)
  | none => none
 | _, _ => none
theorem XsT.get_put : ∀ {ks : List XK} {xs : List XL} {a : XsT ks}, XsT.get ks xs = some a → xs = XsT.put ks a
 | [], [], _, _ => rfl
 | k :: r, x :: xs, a, h => by
  simp only [XsT.get] at h
  split at h
  ·rename_i y hy
   split at h
   ·rename_i z hz
    simp only [Option.some.injEq] at h
    subst h
    rw [XK.get_put hy, XsT.get_put hz]; rfl
   ·simp at h
  ·simp at h
 | [], _ :: _, _, h => by simp [XsT.get] at h
 | _ :: _, [], _, h => by simp [XsT.get] at h
inductive AK where
 | one (x : XK) | agg (xs : List XK) | p (cs : List LK)
@[reducible] def AK.T : AK → Type
 | .one x => x.T
 | .agg xs => XsT xs
 | .p cs => LsT cs
def AK.put : (k : AK) → k.T → Arg
 | .one k, a => .one (k.put a)
 | .agg ks, a => .agg (XsT.put ks a)
 | .p ks, a => .one (.p (LsT.put ks a))
def AK.get : (k : AK) → Arg → Option k.T
 | .one k, .one x => k.get x
 | .agg ks, .agg xs => XsT.get ks xs
 | .p ks, .one (.p cs) => LsT.get ks cs
 | _, _ => none
theorem AK.get_put {k : AK} {x : Arg} {a : k.T} (h : k.get x = some a) : x = k.put a := by
 unfold AK.get at h
 split at h
 ·rw [XK.get_put h]; rfl
 ·rw [XsT.get_put h]; rfl
 ·rw [LsT.get_put h]; rfl
 ·simp at h
@[reducible] def AsT : List AK → Type
 | [] => Unit
 | k :: r => k.T × AsT r
def AsT.put : (ks : List AK) → AsT ks → List Arg
 | [], _ => []
 | k :: r, x => k.put x.1 :: AsT.put r x.2
def AsT.get : (ks : List AK) → List Arg → Option (AsT ks)
 | [], [] => some ()
 | k :: r, x :: xs => match k.get x with
  | some a => (match AsT.get r xs with | some b => some (a, b) | none => none)
  | none => none
 | _, _ => none
theorem AsT.get_put : ∀ {ks : List AK} {xs : List Arg} {a : AsT ks}, AsT.get ks xs = some a → xs = AsT.put ks a
 | [], [], _, _ => rfl
 | k :: r, x :: xs, a, h => by
  simp only [AsT.get] at h
  split at h
  ·rename_i y hy
   split at h
   ·rename_i z hz
    simp only [Option.some.injEq] at h
    subst h
    rw [AK.get_put hy, AsT.get_put hz]; rfl
   ·simp at h
  ·simp at h
 | [], _ :: _, _, h => by simp [AsT.get] at h
 | _ :: _, [], _, h => by simp [AsT.get] at h
def Xwy (f : Nat) (p : List Arg → Option CR) (t : Tab) : Tab := fun g as => cond (Nat.beq g f) (match p as with | some c => some c | none => t g as) (t g as)
section
variable {P : Program}
theorem TabFn.ent {f : Nat} {p : List Arg → Option CR} {t : Tab} (hp : ∀ as cr, p as = some cr → Contract P f as cr) (hf : FnOk P f) (ht : TabFn P t) : TabFn P (Xwy f p t) := by
 constructor
 ·intro g as cr h
  unfold Xwy at h
  cases hg : Nat.beq g f with
  | false => rw [hg] at h; exact ht.ok g as cr h
  | true =>
   rw [hg] at h
   have := Nat.eq_of_beq_eq_true hg
   subst this
   simp only [cond_true] at h
   split at h
   ·rename_i c hc
    simp only [Option.some.injEq] at h
    subst h
    exact hp _ _ hc
   ·exact ht.ok g as cr h
 ·intro g as cr h
  unfold Xwy at h
  cases hg : Nat.beq g f with
  | false => rw [hg] at h; exact ht.fn g as cr h
  | true =>
   have := Nat.eq_of_beq_eq_true hg
   subst this
   exact hf
end
end Go.Rf
end

section
set_option linter.unusedVariables false
namespace Go.Rf
open Go.IntWalk
def H9 {α : Type} (s : α → Int) : List α → Int
 | [] => 0
 | a :: r => s a + H9 s r
def Xzr {α : Type} (g : Int → α → α) (s : α → Int) : Int → List α → List α
 | _, [] => []
 | x, a :: r => g x a :: Xzr g s (x + s a) r
theorem Xn1 {α : Type} [DecidableEq α] (a b : List α) (L : Nat → Int → Option Bool) (hlen : a.length = b.length)
  (hs : ∀ (n : Nat) (j : Nat) (h : j < a.length) (h' : j < b.length), L (n + 1) (j : Int) = if a[j] = b[j] then L n ((j + 1 : Nat) : Int) else some false)
  (he : ∀ (n : Nat), L (n + 1) (a.length : Nat) = some true) : ∀ (n : Nat) (j : Nat), j ≤ a.length → a.length - j < n → L n (j : Int) = some (decide (a.drop j = b.drop j))
 | 0, j, _, h => by omega
 | n + 1, j, hj, h => by
  rcases Nat.lt_or_ge j a.length with hlt | hge
  ·have hlt' : j < b.length := by omega
   rw [hs n j hlt hlt']
   by_cases hc : a[j] = b[j]
   ·rw [if_pos hc, Xn1 a b L hlen hs he n (j + 1) hlt (by omega)]
    exact congrArg some (decide_eq_decide.2 ⟨fun h => by rw [List.drop_eq_getElem_cons hlt, List.drop_eq_getElem_cons hlt', hc, h],
     fun h => by rw [List.drop_eq_getElem_cons hlt, List.drop_eq_getElem_cons hlt'] at h; exact (List.cons.inj h).2⟩)
   ·rw [if_neg hc]
    refine congrArg some (decide_eq_false fun h => hc ?_).symm
    rw [List.drop_eq_getElem_cons hlt, List.drop_eq_getElem_cons hlt'] at h
    exact (List.cons.inj h).1
  ·have : j = a.length := by omega
   subst this
   rw [he, List.drop_length, hlen, List.drop_length]
   simp
end Go.Rf
end

section
set_option linter.unusedVariables false
set_option linter.unusedSimpArgs false
namespace Go.Rf
abbrev vI (x : Int) : Leaf := .v (.int .i64 x)
abbrev vB (x : Bool) : Leaf := .v (.bool x)
abbrev iM (k : Nat) (x : Int) : Nat × Ent := (k, ⟨vI x, 0, 0⟩)
abbrev eM (k : Nat) (x : Leaf) : Nat × Ent := (k, ⟨x, 0, 0⟩)
def pl : Nat → Nat → List (Nat × TK) → List (Nat × TK)
 | _, 0, r => r
 | k, n + 1, r => (k, .plain) :: pl (k + 1) n r
@[reducible] def LK.C : LK → Type → Type
 | .int _, R => Int → R
 | .bool, R => Bool → R
 | .str, R => ByteArray → R
 | .sl _ t, R => List (den t) → R
 | .nil, R => R
def LK.un : (k : LK) → {R : Type} → k.C R → k.T → R
 | .int _, _, f, x => f x
 | .bool, _, f, x => f x
 | .str, _, f, x => f x
 | .sl _ _, _, f, x => f x
 | .nil, _, f, _ => f
@[reducible] def XK.C : XK → Type → Type
 | .l k, R => k.C R
 | .b k, R => k.C R
 | .fn _, R => R
def XK.un : (k : XK) → {R : Type} → k.C R → k.T → R
 | .l k, _, f, x => k.un f x
 | .b k, _, f, x => k.un f x
 | .fn _, _, f, _ => f
@[reducible] def LsC : List LK → Type → Type
 | [], R => R
 | k :: r, R => k.C (LsC r R)
def LsC.un : (ks : List LK) → {R : Type} → LsC ks R → LsT ks → R
 | [], _, f, _ => f
 | k :: r, _, f, x => LsC.un r (k.un f x.1) x.2
@[reducible] def XsC : List XK → Type → Type
 | [], R => R
 | k :: r, R => k.C (XsC r R)
def XsC.un : (ks : List XK) → {R : Type} → XsC ks R → XsT ks → R
 | [], _, f, _ => f
 | k :: r, _, f, x => XsC.un r (k.un f x.1) x.2
@[reducible] def AK.C : AK → Type → Type
 | .one x, R => x.C R
 | .agg xs, R => XsC xs R
 | .p cs, R => LsC cs R
def AK.un : (k : AK) → {R : Type} → k.C R → k.T → R
 | .one x, _, f, a => x.un f a
 | .agg xs, _, f, a => XsC.un xs f a
 | .p cs, _, f, a => LsC.un cs f a
@[reducible] def AsC : List AK → Type → Type
 | [], R => R
 | k :: r, R => k.C (AsC r R)
def AsC.un : (ks : List AK) → {R : Type} → AsC ks R → AsT ks → R
 | [], _, f, _ => f
 | k :: r, _, f, x => AsC.un r (k.un f x.1) x.2
def LK.mk : (k : LK) → {R : Type} → (k.T → R) → k.C R
 | .int _, _, f => f
 | .bool, _, f => f
 | .str, _, f => f
 | .sl _ _, _, f => f
 | .nil, _, f => f ()
def XK.mk : (k : XK) → {R : Type} → (k.T → R) → k.C R
 | .l k, _, f => k.mk f
 | .b k, _, f => k.mk f
 | .fn _, _, f => f ()
def LsC.mk : (ks : List LK) → {R : Type} → (LsT ks → R) → LsC ks R
 | [], _, f => f ()
 | k :: r, _, f => k.mk fun a => LsC.mk r fun x => f (a, x)
def XsC.mk : (ks : List XK) → {R : Type} → (XsT ks → R) → XsC ks R
 | [], _, f => f ()
 | k :: r, _, f => k.mk fun a => XsC.mk r fun x => f (a, x)
def AK.mk : (k : AK) → {R : Type} → (k.T → R) → k.C R
 | .one x, _, f => x.mk f
 | .agg xs, _, f => XsC.mk xs f
 | .p cs, _, f => LsC.mk cs f
def AsC.mk : (ks : List AK) → {R : Type} → (AsT ks → R) → AsC ks R
 | [], _, f => f ()
 | k :: r, _, f => k.mk fun a => AsC.mk r fun x => f (a, x)
abbrev KT (β : Type) : Type := A × List (List Leaf) → Option β
theorem z1 {α β : Type} (b : Bool) (x y : Option α) (f : α → Option β) : (cond b x y).bind f = cond b (x.bind f) (y.bind f) := Xjn b x y f
theorem z2 {α β γ : Type} (x : Option α) (f : α → Option β) (g : β → Option γ) : (x.bind f).bind g = x.bind fun y => (f y).bind g := Option.bind_assoc x f g
theorem z3 {α β : Type} (a : α) (f : α → Option β) : (some a).bind f = f a := rfl
theorem z4 {α β : Type} (f : α → Option β) : (none : Option α).bind f = none := rfl
theorem z5 {α : Type} (x : Option α) : (x.bind fun y => some y) = x := Option.bind_fun_some x
end Go.Rf
end

section
set_option linter.unusedVariables false
set_option linter.unusedSimpArgs false
namespace Go.Rf
inductive MT where
 | int (k : IntKind) | bool | str | sl (m : Mode) (e : Ty) | lent (m : Mode) (e : Ty) | nil (e : Ty) | pair (a b : MT)
@[reducible] def MT.T : MT → Type
 | .int _ => Int
 | .bool => Bool
 | .str => ByteArray
 | .sl _ e => List (den e)
 | .lent _ e => List (den e)
 | .nil e => List (den e)
 | .pair a b => a.T × b.T
def MT.l1 : (t : MT) → t.T → Leaf
 | .int k, x => .v (.int k x)
 | .bool, x => .v (.bool x)
 | .str, x => .v (.string x)
 | .sl m e, x => .s m e x
 | .lent m e, x => .s m e x
 | .nil _, _ => .v (.slice none 0 0)
 | _, _ => .d
def MT.x1 : (t : MT) → t.T → XL
 | .lent m e, x => .b (.s m e x)
 | t, x => .l (t.l1 x)
def MT.p {X : Type} (one : (t : MT) → t.T → X) : (t : MT) → t.T → List X
 | .pair a b, x => a.p one x.1 ++ b.p one x.2
 | t, x => [one t x]
def MT.g {X : Type} (one : (t : MT) → X → Option t.T) : (t : MT) → List X → Option (t.T × List X)
 | .pair a b, l => match a.g one l with
  | some (x, r) => (match b.g one r with | some (y, r') => some ((x, y), r') | none => none)
  | none => none
 | _, [] => none
 | t, y :: r => match one t y with
  | some x => some (x, r)
  | none => none
theorem MT.g_p {X : Type} {one : (t : MT) → t.T → X} {inv : (t : MT) → X → Option t.T} (h1 : ∀ t y a, inv t y = some a → y = one t a) : ∀ {t : MT} {l r : List X} {a : t.T}, t.g inv l = some (a, r) → l = t.p one a ++ r := by
 have leaf : ∀ {t : MT} {l r : List X} {a : t.T}, (match l with | [] => none | y :: r => (match inv t y with | some x => some (x, r) | none => none)) = some (a, r) → l = [one t a] ++ r := by
  intro t l r a h
  cases l with
  | nil => simp at h
  | cons y l =>
   simp only at h
   split at h
   ·rename_i x hx
    simp only [Option.some.injEq, Prod.mk.injEq] at h
    obtain ⟨rfl, rfl⟩ := h
    rw [h1 _ _ _ hx]; rfl
   ·simp at h
 intro t
 induction t with
 | pair a b iha ihb =>
  intro l r z h
  simp only [MT.g] at h
  split at h
  ·rename_i x r1 hx
   split at h
   ·rename_i y r2 hy
    simp only [Option.some.injEq, Prod.mk.injEq] at h
    obtain ⟨rfl, rfl⟩ := h
    rw [iha hx, ihb hy, ← List.append_assoc]; rfl
   ·simp at h
  ·simp at h
 | _ => intro l r a h; exact leaf (by cases l <;> exact h)
def MT.il : (t : MT) → Leaf → Option t.T
 | .int k, .v (.int k' n) => cond (ikb k k') (some n) none
 | .bool, .v (.bool b) => some b
 | .str, .v (.string s) => some s
 | .sl m e, .s m' e' l => cond (Ts m m') (if h : e' = e then some (h ▸ l) else none) none
 | .lent m e, .s m' e' l => cond (Ts m m') (if h : e' = e then some (h ▸ l) else none) none
 | .nil _, .v (.slice none 0 0) => some []
 | _, _ => none
def MT.ix : (t : MT) → XL → Option t.T
 | .lent m e, .b y => MT.il (.lent m e) y
 | .lent _ _, _ => none
 | t, .l y => t.il y
 | _, _ => none
theorem MT.il_ok {t : MT} {y : Leaf} {a : t.T} (h : t.il y = some a) : y = t.l1 a := by
 unfold MT.il at h
 split at h
 ·rename_i k k' n
  cases hk : ikb k k' with
  | false => rw [hk] at h; simp at h
  | true =>
   rw [hk] at h
   simp only [cond_true, Option.some.injEq] at h
   subst h
   rw [L5 hk]; rfl
 ·simp only [Option.some.injEq] at h; subst h; rfl
 ·simp only [Option.some.injEq] at h; subst h; rfl
 ·rename_i m e m' e' l
  cases hk : Ts m m' with
  | false => rw [hk] at h; simp at h
  | true =>
   rw [hk] at h
   simp only [cond_true] at h
   split at h
   ·rename_i ht
    subst ht
    simp only [Option.some.injEq] at h
    subst h
    rw [Sv hk]; rfl
   ·simp at h
 ·rename_i m e m' e' l
  cases hk : Ts m m' with
  | false => rw [hk] at h; simp at h
  | true =>
   rw [hk] at h
   simp only [cond_true] at h
   split at h
   ·rename_i ht
    subst ht
    simp only [Option.some.injEq] at h
    subst h
    rw [Sv hk]; rfl
   ·simp at h
 ·rfl
 ·simp at h
theorem MT.ix_ok {t : MT} {y : XL} {a : t.T} (h : t.ix y = some a) : y = t.x1 a := by
 unfold MT.ix at h
 split at h
 ·rw [MT.il_ok h]; rfl
 ·simp at h
 ·rename_i y n1
  rw [MT.il_ok h]
  cases t with
  | lent m e => exact absurd rfl (n1 m e)
  | _ => rfl
 ·simp at h
@[reducible] def CsT : List MT → Type
 | [] => Unit
 | t :: r => t.T × CsT r
def CsT.ls : (ts : List MT) → CsT ts → List (List Leaf)
 | [], _ => []
 | t :: r, x => t.p MT.l1 x.1 :: CsT.ls r x.2
def Xal {α X : Type} : Option (α × List X) → Option α
 | some (a, []) => some a
 | _ => none
theorem Lv {α X : Type} {o : Option (α × List X)} {a : α} (h : Xal o = some a) : o = some (a, []) := by
 unfold Xal at h
 split at h
 ·simp only [Option.some.injEq] at h; subst h; rfl
 ·simp at h
def CsT.get : (ts : List MT) → List (List Leaf) → Option (CsT ts)
 | [], [] => some ()
 | t :: r, l :: ls => match Xal (t.g MT.il l) with
  | some a => (match CsT.get r ls with | some b => some (a, b) | none => none)
  | none => none
 | _, _ => none
theorem CsT.get_ls : ∀ {ts : List MT} {ls : List (List Leaf)} {a : CsT ts}, CsT.get ts ls = some a → ls = CsT.ls ts a
 | [], [], _, _ => rfl
 | t :: r, l :: ls, a, h => by
  simp only [CsT.get] at h
  split at h
  ·rename_i y hy
   split at h
   ·rename_i z hz
    simp only [Option.some.injEq] at h
    subst h
    have := MT.g_p (fun _ _ _ h => MT.il_ok h) (Lv hy)
    rw [List.append_nil] at this
    rw [this, CsT.get_ls hz]; rfl
   ·simp at h
  ·simp at h
 | [], _ :: _, _, h => by simp [CsT.get] at h
 | _ :: _, [], _, h => by simp [CsT.get] at h
@[reducible] def CsC : List MT → Type → Type
 | [], R => R
 | t :: r, R => t.T → CsC r R
def CsC.un : (ts : List MT) → {R : Type} → CsC ts R → CsT ts → R
 | [], _, f, _ => f
 | _ :: r, _, f, x => CsC.un r (f x.1) x.2
inductive PA where
 | one (t : MT) | agg (t : MT) | p (t : MT) | fn (f : Nat) | fc (f : Nat) (ts : List MT)
@[reducible] def PA.T : PA → Type
 | .one t => t.T
 | .agg t => t.T
 | .p t => t.T
 | .fn _ => Unit
 | .fc _ ts => CsT ts
def PA.put : (k : PA) → k.T → Arg
 | .one t, x => .one (t.x1 x)
 | .agg t, x => .agg (t.p MT.x1 x)
 | .p t, x => .one (.p (t.p MT.l1 x))
 | .fn f, _ => .one (.fn f [])
 | .fc f ts, x => .one (.fn f (CsT.ls ts x))
def PA.get : (k : PA) → Arg → Option k.T
 | .one t, .one x => t.ix x
 | .agg t, .agg xs => Xal (t.g MT.ix xs)
 | .p t, .one (.p cs) => Xal (t.g MT.il cs)
 | .fn f, .one (.fn f' []) => cond (Nat.beq f f') (some ()) none
 | .fc f ts, .one (.fn f' rs) => cond (Nat.beq f f') (CsT.get ts rs) none
 | _, _ => none
theorem PA.get_put {k : PA} {y : Arg} {a : k.T} (h : k.get y = some a) : y = k.put a := by
 unfold PA.get at h
 split at h
 ·rw [MT.ix_ok h]; rfl
 ·have := MT.g_p (fun _ _ _ h => MT.ix_ok h) (Lv h)
  rw [List.append_nil] at this
  rw [this]; rfl
 ·have := MT.g_p (fun _ _ _ h => MT.il_ok h) (Lv h)
  rw [List.append_nil] at this
  rw [this]; rfl
 ·rename_i f f'
  cases hf : Nat.beq f f' with
  | false => rw [hf] at h; simp at h
  | true => rw [Nat.eq_of_beq_eq_true hf]; rfl
 ·rename_i f ts f' rs
  cases hf : Nat.beq f f' with
  | false => rw [hf] at h; simp at h
  | true =>
   rw [hf] at h
   simp only [cond_true] at h
   rw [CsT.get_ls h, Nat.eq_of_beq_eq_true hf]; rfl
 ·simp at h
@[reducible] def PsT : List PA → Type
 | [] => Unit
 | k :: r => k.T × PsT r
def PsT.put : (ks : List PA) → PsT ks → List Arg
 | [], _ => []
 | k :: r, x => k.put x.1 :: PsT.put r x.2
def PsT.get : (ks : List PA) → List Arg → Option (PsT ks)
 | [], [] => some ()
 | k :: r, x :: xs => match k.get x with
  | some a => (match PsT.get r xs with | some b => some (a, b) | none => none)
  | none => none
 | _, _ => none
theorem PsT.get_put : ∀ {ks : List PA} {xs : List Arg} {a : PsT ks}, PsT.get ks xs = some a → xs = PsT.put ks a
 | [], [], _, _ => rfl
 | k :: r, x :: xs, a, h => by
  simp only [PsT.get] at h
  split at h
  ·rename_i y hy
   split at h
   ·rename_i z hz
    simp only [Option.some.injEq] at h
    subst h
    rw [PA.get_put hy, PsT.get_put hz]; rfl
   ·simp at h
  ·simp at h
 | [], _ :: _, _, h => by simp [PsT.get] at h
 | _ :: _, [], _, h => by simp [PsT.get] at h
@[reducible] def PsC : List PA → Type → Type
 | [], R => R
 | .one t :: r, R => t.T → PsC r R
 | .agg t :: r, R => t.T → PsC r R
 | .p t :: r, R => t.T → PsC r R
 | .fn _ :: r, R => PsC r R
 | .fc _ ts :: r, R => CsC ts (PsC r R)
def PsC.un : (ks : List PA) → {R : Type} → PsC ks R → PsT ks → R
 | [], _, f, _ => f
 | .one _ :: r, _, f, x => PsC.un r (f x.1) x.2
 | .agg _ :: r, _, f, x => PsC.un r (f x.1) x.2
 | .p _ :: r, _, f, x => PsC.un r (f x.1) x.2
 | .fn _ :: r, _, f, x => PsC.un r f x.2
 | .fc _ ts :: r, _, f, x => PsC.un r (CsC.un ts f x.1) x.2
inductive RI where
 | v | a | ptr (n : Nat)
@[reducible] def RsT : List MT → Type
 | [] => Unit
 | [t] => t.T
 | t :: s :: r => t.T × RsT (s :: r)
def RsT.ls : (ts : List MT) → RsT ts → List (List Leaf)
 | [], _ => []
 | [t], x => [t.p MT.l1 x]
 | t :: s :: r, x => t.p MT.l1 x.1 :: RsT.ls (s :: r) x.2
def X5q : List RI → List (List Leaf) → List (Bool × List Leaf)
 | .v :: r, l :: ls => (false, l) :: X5q r ls
 | .a :: r, l :: ls => (true, l) :: X5q r ls
 | _, _ => []
def resR : List RI → List (List Leaf) → A × List (List Leaf)
 | [], ls => (.one (.v undef), ls)
 | [.v], l :: ls => (.one (l.headD .d), ls)
 | [.a], l :: ls => (.agg l, ls)
 | [.ptr n], ls => (.one (.ptr (.cell 0) n 0), ls)
 | rs, ls => (.tup (X5q rs ls), ls.drop rs.length)
structure RO where
 rs : List RI
 ts : List MT
@[reducible] def RO.T (o : RO) : Type := RsT o.ts
def RO.put (o : RO) (r : o.T) : A × List (List Leaf) := resR o.rs (RsT.ls o.ts r)
structure FD where
 f : Nat
 A : List PA
 O : RO
 F : PsC A (Option O.T)
def FD.get (d : FD) (as : List Arg) : Option CR :=
 match PsT.get d.A as with
 | some x => some ⟨PsC.un d.A d.F x, d.O.put⟩
 | none => none
def A0 : List FD → Tab
 | [] => fun _ _ => none
 | d :: r => Xwy d.f d.get (A0 r)
structure FD.Ok (P : Program) (d : FD) : Prop where
 con : ∀ x, Contract P d.f (PsT.put d.A x) ⟨PsC.un d.A d.F x, d.O.put⟩
 fn : FnOk P d.f
def OkL (P : Program) : List FD → Prop
 | [] => True
 | d :: r => d.Ok P ∧ OkL P r
theorem OkL.c {P : Program} {d : FD} {r : List FD} (h : d.Ok P) (t : OkL P r) : OkL P (d :: r) := ⟨h, t⟩
theorem OkL.n {P : Program} : OkL P [] := trivial
theorem Ah {P : Program} : ∀ {ds : List FD}, OkL P ds → TabFn P (A0 ds)
 | [], _ => TabFn.none
 | d :: r, h => TabFn.ent (fun as cr hc => by
   unfold FD.get at hc
   split at hc
   ·rename_i x hx
    simp only [Option.some.injEq] at hc
    subst hc
    rw [PsT.get_put hx]
    exact h.1.con x
   ·simp at hc) h.1.fn (Ah h.2)
abbrev mI : MT := .int .i64
abbrev mB : MT := .bool
abbrev Jb (t : MT) (x : t.T) : List Leaf := t.p MT.l1 x
def Cj : Nat → List Leaf → List (Nat × Ent) → List (Nat × Ent)
 | _, [], r => r
 | k, c :: l, r => (k, ⟨c, 0, 0⟩) :: Cj (k + 1) l r
abbrev Az {α β : Type} (i : Int) (l : List α) (x : Option β) : Option β := cond (decide (0 ≤ i)) (cond (decide (i < (l.length : Int))) x none) none
def Xjg {α β γ : Type} (f : α → γ) (g : β → γ) : Sum α β → γ
 | .inl x => f x
 | .inr y => g y
theorem z6 {α β γ δ : Type} (f : α → Option γ) (g : β → Option γ) (K : γ → Option δ) (z : Sum α β) : (Xjg f g z).bind K = Xjg (fun x => (f x).bind K) (fun y => (g y).bind K) z := by cases z <;> rfl
theorem z7 {α β γ : Type} (f : α → γ) (g : β → γ) (x : α) : Xjg f g (.inl x) = f x := rfl
theorem z8 {α β γ : Type} (f : α → γ) (g : β → γ) (x : β) : Xjg f g (.inr x) = g x := rfl
abbrev Bi {β : Type} (a b e : Nat) (x : Option β) : Option β := cond (decide ((a + b) * e ≤ 140737488355328)) x none
end Go.Rf
end
