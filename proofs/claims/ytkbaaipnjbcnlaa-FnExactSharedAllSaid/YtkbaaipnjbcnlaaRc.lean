/-
  A typed evaluator of the translated code: tables, rows' arguments, words for printed texts. (A part of the proofs of this seat.)
-/
import Derived.Test.YtkbaaipnjbcnlaaRb
import Derived.ChangeArms
import Derived.ChangeShapes
import Derived.WideShapes
import Derived.SizedLaws
import Derived.Below
import Derived.IntWalk

section
set_option linter.unusedVariables false
set_option linter.unusedSimpArgs false
/-
  A typed evaluator of the translated code: tables of types and fields, and how they are shown to hold of a program.
-/
namespace Go.Rf

def asc {α : Type} : List (Nat × α) → Nat → Option α
  | [], _ => none
  | (k, a) :: r, q => cond (Nat.beq k q) (some a) (asc r q)

def tyCk (P : Program) (t : Nat) : Option (Nat × Nat × Option (List Value)) := (P.info? t).map fun f => (f.size, f.bytes, f.zero.map fun z => z.cells.toList)
def fldCk (P : Program) (s f : Nat) : Option (Nat × Nat × Bool) :=
  match P.underlying s with
  | some (.struct fs) => (match fs[f]? with
    | some fd => (match P.info? fd.type, P.underlying fd.type with
      | some i, some d => some (fd.offset, i.size, aggD d)
      | _, _ => none)
    | none => none)
  | _ => none
def plCk (P : Program) (t : Nat) : Option (List (Nat × Nat)) :=
  match P.underlying t with
  | some (.struct fields) => fields.toList.mapM fun f => (P.info? f.type).map fun i => (f.offset, i.size)
  | _ => none

section
variable {P : Program}

theorem tyCk_some {t n b : Nat} {zs : List Value} (h : tyCk P t = some (n, b, some zs)) : ∃ f, P.info? t = some f ∧ f.size = n ∧ f.bytes = b ∧ ∃ z, f.zero = some z ∧ z.cells.toList = zs := by
  unfold tyCk at h
  cases hf : P.info? t with
  | none => rw [hf] at h; simp at h
  | some f =>
    rw [hf] at h
    simp only [Option.map_some, Option.some.injEq, Prod.mk.injEq, Option.map_eq_some_iff] at h
    obtain ⟨h1, h2, z, h3, h4⟩ := h
    exact ⟨f, rfl, h1, h2, z, h3, h4⟩

theorem TyOk.ofInt {t b eb : Nat} {k : IntKind} (h1 : tyCk P t = some (1, b, some [.int k 0])) (h2 : P.underlying t = some (.int k)) : TyOk P t ⟨.int k, false, eb⟩ := by
  obtain ⟨f, a1, a2, _, z, a4, a5⟩ := tyCk_some h1
  exact ⟨⟨f, a1, a2, z, a4, a5⟩, ⟨_, h2, rfl⟩, fun k' e _ => (by cases e; exact h2), fun e _ => (by cases e), fun e _ => (by cases e), fun e' e _ => (by cases e)⟩
theorem TyOk.ofBool {t b eb : Nat} (h1 : tyCk P t = some (1, b, some [.bool false])) (h2 : P.underlying t = some .bool) : TyOk P t ⟨.bool, false, eb⟩ := by
  obtain ⟨f, a1, a2, _, z, a4, a5⟩ := tyCk_some h1
  exact ⟨⟨f, a1, a2, z, a4, a5⟩, ⟨_, h2, rfl⟩, fun k' e _ => (by cases e), fun _ _ => h2, fun e _ => (by cases e), fun e' e _ => (by cases e)⟩
theorem TyOk.ofStr {t b eb : Nat} (h1 : tyCk P t = some (1, b, some [.string ⟨#[]⟩])) (h2 : P.underlying t = some .string) : TyOk P t ⟨.str, false, eb⟩ := by
  obtain ⟨f, a1, a2, _, z, a4, a5⟩ := tyCk_some h1
  exact ⟨⟨f, a1, a2, z, a4, a5⟩, ⟨_, h2, rfl⟩, fun k' e _ => (by cases e), fun e _ => (by cases e), fun _ _ => h2, fun e' e _ => (by cases e)⟩
theorem TyOk.ofSl {t te b eb : Nat} {e : Ty} (h1 : tyCk P t = some (1, b, some [.slice none 0 0])) (h2 : P.underlying t = some (.slice te)) (h3 : tyCk P te = some (wd e, eb, some (zv e))) : TyOk P t ⟨.sl e, false, eb⟩ := by
  obtain ⟨f, a1, a2, _, z, a4, a5⟩ := tyCk_some h1
  obtain ⟨f', b1, b2, b3, z', b4, b5⟩ := tyCk_some h3
  exact ⟨⟨f, a1, a2, z, a4, a5⟩, ⟨_, h2, rfl⟩, fun k' e _ => (by cases e), fun e _ => (by cases e), fun e _ => (by cases e), fun e' e _ => (by cases e; exact ⟨te, f', h2, b1, b2, b3, z', b4, b5⟩)⟩
theorem TyOk.ofAgg {t b eb : Nat} {ty : Ty} (h1 : tyCk P t = some (wd ty, b, some (zv ty))) (h2 : (P.underlying t).map aggD = some true) : TyOk P t ⟨ty, true, eb⟩ := by
  obtain ⟨f, a1, a2, _, z, a4, a5⟩ := tyCk_some h1
  have : ∃ d, P.underlying t = some d ∧ aggD d = true := by
    cases hd : P.underlying t with
    | none => rw [hd] at h2; simp at h2
    | some d => rw [hd] at h2; exact ⟨d, rfl, by simpa using h2⟩
  exact ⟨⟨f, a1, a2, z, a4, a5⟩, this, fun _ _ e => (by simp at e), fun _ e => (by simp at e), fun _ e => (by simp at e), fun _ _ e => (by simp at e)⟩

theorem FldOk.of {s f o n : Nat} {g : Bool} (h : fldCk P s f = some (o, n, g)) (hn : n ≠ 0) : FldOk P s f o n g := by
  unfold fldCk at h
  split at h <;> try (simp at h; done)
  rename_i fs hs
  split at h <;> try (simp at h; done)
  rename_i fd hfd
  split at h <;> try (simp at h; done)
  rename_i i d hi hd
  simp only [Option.some.injEq, Prod.mk.injEq] at h
  obtain ⟨h1, h2, h3⟩ := h
  exact ⟨fs, fd, i, d, hs, hfd, h1, hi, h2, hn, hd, h3⟩

theorem BldOk.of {t n b : Nat} {zs : List Value} {fld : Nat → Option (Nat × Nat × Bool)} {pl : List (Nat × Nat)} (h1 : tyCk P t = some (n, b, some zs)) (h2 : plCk P t = some pl)
    (h3 : ∀ f o n g, fld f = some (o, n, g) → pl[f]? = some (o, n)) : BldOk P t fld := by
  obtain ⟨it, a1, _, _, z, a4, _⟩ := tyCk_some h1
  unfold plCk at h2
  split at h2 <;> try (simp at h2; done)
  rename_i fields hu
  refine ⟨fun i => pl.toArray[i]?, it, z, a1, a4, fun parts => ?_, fun f o n g h => by simpa using h3 f o n g h⟩
  simp [Program.built, a1, hu, a4, h2]

/-! ### whole tables -/
def AllT (p : Nat → TyI → Prop) : List (Nat × TyI) → Prop
  | [] => True
  | (t, i) :: r => p t i ∧ AllT p r

theorem AllT.get {p : Nat → TyI → Prop} : ∀ {l : List (Nat × TyI)} {t : Nat} {i : TyI}, AllT p l → asc l t = some i → p t i
  | [], t, i, _, h => by simp [asc] at h
  | (k, a) :: r, t, i, ⟨h1, h2⟩, h => by
    simp only [asc] at h
    cases hb : Nat.beq k t with
    | true =>
      rw [hb] at h
      have := Nat.eq_of_beq_eq_true hb
      subst this
      simp only [cond_true, Option.some.injEq] at h
      subst h
      exact h1
    | false => rw [hb] at h; exact h2.get h

/-- a struct type's fields: offset, cells, is it an aggregate -/
abbrev FldT := List (Nat × List (Nat × Nat × Bool))
def fldOf (T : FldT) (s f : Nat) : Option (Nat × Nat × Bool) := (asc T s).bind fun l => nthO l f

def fldsB (P : Program) (s : Nat) : Nat → List (Nat × Nat × Bool) → Prop
  | _, [] => True
  | f, (o, n, g) :: r => (fldCk P s f = some (o, n, g) ∧ Nat.beq n 0 = false) ∧ fldsB P s (f + 1) r

theorem fldsB_get {s : Nat} : ∀ {l : List (Nat × Nat × Bool)} {k f : Nat} {z : Nat × Nat × Bool}, fldsB P s k l → nthO l f = some z → FldOk P s (k + f) z.1 z.2.1 z.2.2
  | [], k, f, z, _, h => by cases f <;> simp [nthO] at h
  | (o, n, g) :: r, k, 0, z, ⟨⟨h1, h2⟩, _⟩, h => by
    simp only [nthO, Option.some.injEq] at h
    subst h
    exact FldOk.of h1 fun hn => by simp only at hn; rw [hn] at h2; simp at h2
  | x :: r, k, f + 1, z, ⟨_, h2⟩, h => by
    have := fldsB_get (f := f) h2 (by simpa [nthO] using h)
    rwa [show k + 1 + f = k + (f + 1) by omega] at this

def AllF (P : Program) : FldT → Prop
  | [] => True
  | (s, l) :: r => fldsB P s 0 l ∧ AllF P r

theorem AllF.get : ∀ {T : FldT} {s f : Nat} {z : Nat × Nat × Bool}, AllF P T → fldOf T s f = some z → FldOk P s f z.1 z.2.1 z.2.2
  | [], s, f, z, _, h => by simp [fldOf, asc] at h
  | (k, l) :: r, s, f, z, ⟨h1, h2⟩, h => by
    simp only [fldOf, asc] at h
    cases hb : Nat.beq k s with
    | true =>
      rw [hb] at h
      have := Nat.eq_of_beq_eq_true hb
      subst this
      simp only [cond_true, Option.bind_some] at h
      have := fldsB_get h1 h
      rwa [Nat.zero_add] at this
    | false => rw [hb] at h; exact h2.get h
end

end Go.Rf
end

section
set_option linter.unusedVariables false
/-
  A typed evaluator of the translated code: a loop within a function, by its place.
-/
namespace Go.Rf

/-- the code at a place: 0 and 1 are a sequence's and a choice's halves; a block and a loop have one part -/
def codeAt : List Nat → Code → Code
  | [], c => c
  | 0 :: p, .seq a _ => codeAt p a
  | _ :: p, .seq _ b => codeAt p b
  | 0 :: p, .cond _ a _ => codeAt p a
  | _ :: p, .cond _ _ b => codeAt p b
  | _ :: p, .block _ c => codeAt p c
  | _ :: p, .loop c => codeAt p c
  | _, c => c

def thenC (E : Env) {β : Type} (b : Code) (i : Nat) (k : Ex → St → Option β) : Ex → St → Option β := fun e σ' =>
  match e with
  | .normal => evalC E b i σ' k
  | e => k e σ'

def blockC {β : Type} (id : Nat) (k : Ex → St → Option β) : Ex → St → Option β := fun e σ' =>
  match e with
  | .exit id' => cond (Nat.beq id' id) (k .normal σ') (k (.exit id') σ')
  | e => k e σ'

/-- what goes on behind the code at a place (not within a loop) -/
def kontAt (E : Env) {β : Type} : List Nat → Code → Nat → (Ex → St → Option β) → (Ex → St → Option β)
  | [], _, _, k => k
  | 0 :: p, .seq a b, i, k => kontAt E p a i (thenC E b i k)
  | _ :: p, .seq _ b, i, k => kontAt E p b i k
  | 0 :: p, .cond _ a _, i, k => kontAt E p a i k
  | _ :: p, .cond _ _ b, i, k => kontAt E p b i k
  | _ :: p, .block id c, _, k => kontAt E p c id (blockC id k)
  | _, _, _, k => k

/-- the end of a function -/
def endC (E : Env) {β : Type} (fn : Func) (as : List Arg) (K : A × List (List Leaf) → Option β) : Ex → St → Option β := fun e σ =>
  match e with
  | .normal | .ret => (exitP E fn.results.toList fn.resultTypes.toList (backArgs 0 as)).run E.tab σ fun r _ => K r
  | _ => none

def bodyOf (fn : Func) : Code := fn.body.getD .skip

/-- a loop at a place of a function, from a state on -/
def loopF (E : Env) {β : Type} (fn : Func) (as : List Arg) (K : A × List (List Leaf) → Option β) (p : List Nat) (i : Nat) (n : Nat) (σ : St) : Option β :=
  loopQ (headQ E i) (fun σ' k' => evalC E (codeAt (p ++ [0]) (bodyOf fn)) i σ' k') (kontAt E p (bodyOf fn) 0 (endC E fn as K)) n σ

theorem loopF_succ (E : Env) {β : Type} (fn : Func) (as : List Arg) (K : A × List (List Leaf) → Option β) (p : List Nat) (i n : Nat) (σ : St) :
    loopF E fn as K p i (n + 1) σ = evalC E (codeAt (p ++ [0]) (bodyOf fn)) i σ fun e σ' =>
      match e with
      | .normal => headQ E i σ' (loopF E fn as K p i n)
      | e => kontAt E p (bodyOf fn) 0 (endC E fn as K) e σ' := rfl
end Go.Rf
end

section
set_option linter.unusedVariables false
set_option linter.unusedSimpArgs false
/-
  A typed evaluator of the translated code: what a row's argument reads as.
-/
namespace Go.Rf

/-! ### a type of the program, as the evaluator has it -/
def fsOf (P : Program) (rec : TypeId → Option Ty) : Nat → List Field → Option Ty
  | _, [] => none
  | o, f :: r => match rec f.type with
    | none => none
    | some a => cond (Nat.beq f.offset o && Nat.beq (P.cellsOf f.type) (wd a))
      (match r with
       | [] => some a
       | _ => (match fsOf P rec (o + wd a) r with | some b => some (.pair a b) | none => none)) none

def tyOf (P : Program) : Nat → TypeId → Option Ty
  | 0, _ => none
  | n + 1, t => match P.underlying t with
    | some .bool => some .bool
    | some (.int k) => some (.int k)
    | some .string => some .str
    | some (.struct fs) => (match fsOf P (tyOf P n) 0 fs.toList with
      | some ty => cond (Nat.beq (P.cellsOf t) (wd ty)) (some ty) none
      | none => none)
    | some (.slice e) => (match tyOf P n e with
      | some te => cond (Nat.beq (P.cellsOf e) (wd te)) (some (.sl te)) none
      | none => none)
    | _ => none

/-- whole numbers are those of their kind, slices and strings no longer than can be -/
def Wf : (t : Ty) → den t → Prop
  | .int k, n => (Lit.int k n).wf = true
  | .bool, _ => True
  | .str, s => s.size ≤ maxLen
  | .sl e, l => l.length ≤ maxLen ∧ ∀ x ∈ l, Wf e x
  | .pair a b, x => Wf a x.1 ∧ Wf b x.2

section
variable {H : Type} {enc : TypeId × Value → H} {P : Program} {w : World} {base : Nat} {spare : Nat → Bool} {held : Bool}

theorem nbeq {a b : Nat} (h : Nat.beq a b = true) : a = b := Nat.eq_of_beq_eq_true h

theorem fsOf_rd {S : Nat → Prop} {m : Mode} (rec : TypeId → Option Ty) (Q : TypeId → List Value → Prop)
    (ih : ∀ t ty cs, rec t = some ty → hasSl ty = false → Q t cs → ∃ v : den ty, Rd w S ty m v cs [] ∧ Wf ty v) :
    ∀ (fs : List Field) (o : Nat) (ty : Ty) (cs : List Value), fsOf P rec o fs = some ty → hasSl ty = false → cs.length = o + wd ty →
      (∀ f ∈ fs, Q f.type ((cs.drop f.offset).take (P.cellsOf f.type))) → ∃ v : den ty, Rd w S ty m v (cs.drop o) [] ∧ Wf ty v
  | [], _, _, _, h, _, _, _ => by simp [fsOf] at h
  | f :: r, o, ty, cs, h, hs, hl, hq => by
    simp only [fsOf] at h
    cases ha : rec f.type with
    | none => rw [ha] at h; simp at h
    | some a =>
      rw [ha] at h
      simp only at h
      cases hb : (Nat.beq f.offset o && Nat.beq (P.cellsOf f.type) (wd a)) with
      | false => rw [hb] at h; simp at h
      | true =>
        rw [hb, cond_true] at h
        rw [Bool.and_eq_true] at hb
        have e1 := nbeq hb.1
        have e2 := nbeq hb.2
        have hf := hq f (by simp)
        rw [e1, e2] at hf
        cases r with
        | nil =>
          simp only [Option.some.injEq] at h
          subst h
          obtain ⟨v, h1, h2⟩ := ih _ _ _ ha hs hf
          refine ⟨v, ?_, h2⟩
          rwa [List.take_of_length_le (by simp; omega)] at h1
        | cons g r =>
          simp only at h
          cases hr : fsOf P rec (o + wd a) (g :: r) with
          | none => rw [hr] at h; simp at h
          | some b =>
            rw [hr] at h
            simp only [Option.some.injEq] at h
            subst h
            simp only [hasSl, Bool.or_eq_false_iff] at hs
            simp only [wd] at hl
            obtain ⟨v, h1, h2⟩ := ih _ _ _ ha hs.1 hf
            obtain ⟨u, h3, h4⟩ := fsOf_rd rec Q ih (g :: r) (o + wd a) b cs hr hs.2 (by omega) (fun x hx => hq x (List.mem_cons_of_mem _ hx))
            refine ⟨(v, u), ⟨_, _, [], [], ?_, rfl, h1, h3⟩, h2, h4⟩
            rw [← List.drop_drop]
            exact (List.take_append_drop _ _).symm

theorem trod_flat {S : Nat → Prop} {m : Mode} : ∀ (n : Nat) (t : TypeId) (ty : Ty) (fuel : Nat) (cs : List Value) (x : DataW H × List MemPlace), tyOf P n t = some ty → hasSl ty = false →
    DataW.trod enc P w base spare held fuel t cs = some x → ∃ v : den ty, Rd w S ty m v cs [] ∧ Wf ty v
  | 0, t, ty, fuel, cs, x, h, _, _ => by simp [tyOf] at h
  | n + 1, t, ty, fuel, cs, x, h, hs, hx => by
    unfold tyOf at h
    split at h
    · rename_i hu
      simp only [Option.some.injEq] at h
      subst h
      obtain ⟨b, rfl, _⟩ := DataW.trod_bool hu hx
      exact ⟨b, ⟨rfl, rfl⟩, trivial⟩
    · rename_i k hu
      simp only [Option.some.injEq] at h
      subst h
      obtain ⟨b, rfl, _, hw⟩ := DataW.trod_int hu hx
      exact ⟨b, ⟨rfl, rfl⟩, hw⟩
    · rename_i hu
      simp only [Option.some.injEq] at h
      subst h
      obtain ⟨b, rfl, _, hw⟩ := DataW.trod_string hu hx
      exact ⟨b, ⟨rfl, rfl⟩, hw⟩
    · rename_i fs hu
      split at h <;> try (simp at h; done)
      rename_i ty' hf
      cases hb : Nat.beq (P.cellsOf t) (wd ty') with
      | false => rw [hb] at h; simp at h
      | true =>
        rw [hb, cond_true, Option.some.injEq] at h
        subst h
        obtain ⟨xs, k, rfl, _, hl, hlen, hel⟩ := DataW.trod_struct hu hx
        have := fsOf_rd (w := w) (S := S) (m := m) (P := P) (tyOf P n) (fun t cs => ∃ x, DataW.trod enc P w base spare held k t cs = some x)
          (fun t ty cs h1 h2 ⟨x, h3⟩ => trod_flat n t ty k cs x h1 h2 h3) fs.toList 0 ty' cs hf hs (by rw [hl, nbeq hb]; omega) (fun f hf' => by
            obtain ⟨i, hi, hi'⟩ := List.getElem_of_mem hf'
            simp only [Array.length_toList] at hi
            have hfi : fs[i]? = some f := by rw [Array.getElem?_eq_getElem hi]; simpa using hi'
            have := hel i f hfi
            rw [List.getElem?_eq_getElem (by omega)] at this
            exact ⟨_, this⟩)
        simpa using this
    · rename_i e hu
      split at h <;> try (simp at h; done)
      rename_i te he
      cases hb : Nat.beq (P.cellsOf e) (wd te) with
      | false => rw [hb] at h; simp at h
      | true =>
        rw [hb, cond_true, Option.some.injEq] at h
        subst h
        simp [hasSl] at hs
    · simp at h

theorem cells_get {a : Addr} {n : Nat} {cs : List Value} (h : w.cells? base a n = some cs) : cs.length = n ∧ ∀ j, j < n → w.cell? (a.add j) = cs[j]? := by
  unfold World.cells? at h
  split at h
  · exact ⟨by simpa using mapM_some_length h, fun j hj => by simpa using mapM_some_get h j j (by simp [hj])⟩
  · simp at h

/-- a slice whose elements lead nowhere, as a row has it -/
theorem trod_slice {t e : TypeId} {te : Ty} {n fuel : Nat} {a : Option Addr} {len cap : Nat} {x : DataW H × List MemPlace} (ht : P.underlying t = some (.slice e))
    (he : tyOf P n e = some te) (hs : hasSl te = false) (hc : P.cellsOf e = wd te) (hp : 0 < wd te) (hsp : ∀ b, a = some b → b.spot = none)
    (h : DataW.trod enc P w base spare held fuel t [.slice a len cap] = some x) :
    ∃ l : List (den te), l.length = len ∧ Rd w (fun b => b < w.heap.size) (.sl te) .ro l [.slice a len cap] [] ∧ Wf (.sl te) l := by
  rcases DataW.trod_slice ht h with ⟨hcs, _⟩ | ⟨ad, len', cap', elems, rest, k, rfl, hcs, _, hb, hl, hcm, hlen, hel, _⟩
  · simp only [List.cons.injEq, Value.slice.injEq, and_true] at hcs
    obtain ⟨rfl, rfl, rfl⟩ := hcs
    exact ⟨[], rfl, ⟨_, rfl, none, 0, rfl, Nat.le_refl _, fun h => (by cases h), .inl ⟨rfl, rfl, rfl, rfl⟩⟩, Nat.zero_le _, fun x hx => by simp at hx⟩
  · simp only [List.cons.injEq, Value.slice.injEq, and_true] at hcs
    obtain ⟨rfl, rfl, rfl⟩ := hcs
    obtain ⟨b, o, sp⟩ := ad
    have : sp = none := hsp _ rfl
    subst this
    have hrow : ∀ i, i < len → ∃ v : den te, ∃ vs : List Value, vs.length = wd te ∧ (∀ j, j < wd te → cellAt w b (o + i * wd te + j) = vs[j]?) ∧ Rd w (fun b => b < w.heap.size) te .ro v vs [] ∧ Wf te v := by
      intro i hi
      have h1 := hel i hi
      rw [List.getElem?_eq_getElem (by omega)] at h1
      simp only [Option.bind_eq_some_iff] at h1
      obtain ⟨cs, h2, h3⟩ := h1
      rw [hc] at h2
      obtain ⟨h4, h5⟩ := cells_get h2
      obtain ⟨v, h6, h7⟩ := trod_flat (S := fun b => b < w.heap.size) (m := .ro) n e te k cs _ he hs h3
      refine ⟨v, cs, h4, fun j hj => ?_, h6, h7⟩
      rw [← h5 j hj]
      unfold cellAt
      have : ((⟨b, o, none⟩ : Addr).add (i * wd te)).add j = ⟨b, o + i * wd te + j, none⟩ := by
        unfold Addr.add
        split <;> split <;> simp_all
      rw [this]
    let f : Nat → den te := fun i => if h : i < len then (hrow i h).choose else dflt te
    have hf : ∀ i (h : i < len), f i = (hrow i h).choose := fun i h => by simp [f, h]
    refine ⟨(List.range len).map f, by simp, ⟨_, rfl, some ⟨b, o, none⟩, cap, by simp, by simpa using hl, fun h => (by cases h), .inr ⟨b, o, List.replicate len [], rfl, by simp, fun h => (by cases h), fun _ => ⟨rfl, by simp, fun hne => ?_⟩, fun i h => (by cases h), fun i x b' _ hx hb' => ?_⟩⟩, ?_, fun x hx => ?_⟩
    · have hpos : 0 < len := by
        cases len with
        | zero => simp at hne
        | succ _ => omega
      obtain ⟨v, vs, h1, h2, _⟩ := hrow 0 hpos
      have := h2 0 hp
      rw [List.getElem?_eq_getElem (by omega)] at this
      unfold cellAt World.cell? at this
      simp only at this
      cases hh : w.heap[b]? with
      | none => rw [hh] at this; simp at this
      | some z => exact (Array.getElem?_eq_some_iff.1 hh).1
    · simp only [List.getElem?_map, Option.map_eq_some_iff] at hx
      obtain ⟨i', hi', rfl⟩ := hx
      have hi : i < len := by
        rcases Nat.lt_or_ge i len with hlt | hge
        · exact hlt
        · rw [List.getElem?_replicate, if_neg (by omega)] at hb'
          simp at hb'
      have : i = i' := by
        rw [List.getElem?_range hi] at hi'
        simpa using hi'
      subst this
      rw [List.getElem?_replicate, if_pos hi, Option.some.injEq] at hb'
      subst hb'
      rw [hf i hi]
      obtain ⟨vs, h1, h2, h3, _⟩ := (hrow i hi).choose_spec
      exact ⟨vs, h1, h2, h3⟩
    · simp; omega
    · simp only [List.mem_map, List.mem_range] at hx
      obtain ⟨i, hi, rfl⟩ := hx
      rw [hf i hi]
      obtain ⟨vs, _, _, _, h4⟩ := (hrow i hi).choose_spec
      exact h4

theorem okWide_spot {e : TypeId} {t : TypeId} {r : Reach} {a : Option Addr} {len cap : Nat} (ht : P.underlying t = some (.slice e)) (h : Value.okWide P w r base t (.slice a len cap)) : ∀ b, a = some b → b.spot = none := by
  rintro b rfl
  simp only [Value.okWide, ht, Cell.okWide, Cell.ok] at h
  exact h.2.2.2.1

/-- its bytes are no more than a row's weights allow -/
theorem sized_row {t e : TypeId} {a : Option Addr} {len cap : Nat} {d : DataW H} {ps : List MemPlace} {ts : List TypeId} {ds : List (DataW H)} {j : Nat}
    (hsz : (DataW.weightsEach P ts ds).all (· ≤ reachBytes) = true) (ht : ts[j]? = some t) (hd : ds[j]? = some d) (hu : P.underlying t = some (.slice e)) {B : Nat} (hB : P.bytesOf e = B)
    (h : DataW.Trod enc P w base spare held t (.slice a len cap) d ps) : len * B ≤ 140737488351232 := by
  obtain ⟨fuel, hf⟩ := h
  rcases DataW.trod_slice hu hf with ⟨hcs, _⟩ | ⟨ad, len', cap', elems, rest, k, rfl, hcs, hx, hb, hl, hcm, hlen, hel, _⟩
  · simp [Value.cells] at hcs
    obtain ⟨rfl, rfl, rfl⟩ := hcs
    simp
  · simp [Value.cells] at hcs
    obtain ⟨rfl, rfl, rfl⟩ := hcs
    simp only [Prod.mk.injEq] at hx
    obtain ⟨rfl, _⟩ := hx
    have z := sized_slice hsz ht hd hu
    rw [hB] at z
    simp only [List.length_map] at z
    have : len * B ≤ (elems.length + rest.length) * B := Nat.mul_le_mul_right _ (by omega)
    exact Nat.le_trans this z
end

end Go.Rf
end

section
set_option linter.unusedVariables false
set_option linter.unusedSimpArgs false
/-
  A typed evaluator of the translated code: from tables to environments, and to what a row asks of a law's call.
-/
namespace Go.Rf

section
variable {P : Program}

/-- an argument that is no pointer: how a table has it -/
def argV : (t : Ty) → den t → Arg
  | .pair a b, x => .agg ((enc .ro (.pair a b) x).map .l)
  | t, x => match enc .ro t x with | [y] => .one (.l y) | ys => .agg (ys.map .l)

theorem nilOwn : ∀ {bss : List (List Nat)}, bss.flatten = [] → bss.flatten.Nodup := fun h => by rw [h]; exact List.nodup_nil

/-- a law's call, whose answer is true -/
theorem law_calls {f : Nat} {as : List Arg} {cr : CR} (hC : Contract P f as cr) {vals : List Value} {bss : List (List Nat)} {w : World}
    (hA : ArgsV w (fun b => b < w.heap.size) as vals bss) (hb : bss.flatten = []) {r : cr.R} (hr : cr.o = some r) (he : (cr.e r).1 = .one (.v (.bool true))) :
    Calls P f vals.toArray w fun e w' => e = .returned (.bool true) ∧ Go.RowKit.Below w.heap.size w w' := by
  refine (hC w (fun b => b < w.heap.size) vals bss hA (by rw [hb]; exact List.nodup_nil) (by rw [hb]; simp) (fun b h => h) r hr).mono ?_
  rintro e w' ⟨v, rfl, hp⟩
  obtain ⟨S', bs, hv, _⟩ := hp.ex
  rw [he] at hv
  obtain ⟨rfl, _⟩ := hv
  refine ⟨rfl, hp.io.os, hp.io.tape, hp.io.output, hp.sz, fun k hk => hp.frm k hk (by rw [hb]; simp)⟩

/-- what of the tables is about the types alone -/
structure TysOk (P : Program) (E : Env) : Prop where
  ty : ∀ t i, E.ty t = some i → TyOk P t i
  fld : ∀ s f z, E.fld s f = some z → FldOk P s f z.1 z.2.1 z.2.2
  bld : ∀ t i, E.ty t = some i → i.agg = true → BldOk P t (E.fld t)
  eq : ∀ t i, E.eqt t = true → E.ty t = some i → EqOk P t i.ty

structure TabFn (P : Program) (tab : Tab) : Prop where
  ok : TabOk P tab
  fn : ∀ f as cr, tab f as = some cr → FnOk P f

theorem EnvOk.of {E : Env} (h : TysOk P E) (t : TabFn P E.tab) : EnvOk P E := ⟨h.ty, h.fld, h.bld, h.eq, t.ok, t.fn⟩

theorem TabFn.none : TabFn P (fun _ _ => Option.none) := ⟨fun _ _ _ h => (by cases h), fun _ _ _ h => (by cases h)⟩

def fnCk (P : Program) (f : Nat) : Bool := match P.funcs[f]? with
  | some fn => !(fn.name == "runtime.NumGoroutine") && fn.body.isSome
  | none => false
theorem FnOk.of {f : Nat} (h : fnCk P f = true) : FnOk P f := by
  unfold fnCk at h
  split at h
  · rename_i fn hf
    simp only [Bool.and_eq_true, Bool.not_eq_true', Option.isSome_iff_ne_none] at h
    refine ⟨fn, hf, h.1, ?_⟩
    cases hb : fn.body with
    | none => exact absurd hb h.2
    | some _ => rfl
  · simp at h

theorem bld_of {T : FldT} {t : Nat} {row : List (Nat × Nat × Bool)} (h0 : asc T t = some row) (h1 : ((P.info? t).bind fun f => f.zero).isSome = true) (h2 : plCk P t = some (row.map fun z => (z.1, z.2.1))) : BldOk P t (fldOf T t) := by
  obtain ⟨z, hz⟩ := Option.isSome_iff_exists.1 h1
  obtain ⟨i, hi, hz⟩ := Option.bind_eq_some_iff.1 hz
  have hty : tyCk P t = some (i.size, i.bytes, some z.cells.toList) := by simp [tyCk, hi, hz]
  refine BldOk.of hty h2 fun f o n g h => ?_
  unfold fldOf at h
  rw [h0, Option.bind_some] at h
  have : ∀ (l : List (Nat × Nat × Bool)) (f : Nat), nthO l f = some (o, n, g) → (l.map fun z => (z.1, z.2.1))[f]? = some (o, n) := by
    intro l
    induction l with
    | nil => intro f h; cases f <;> simp [nthO] at h
    | cons z r ih =>
      intro f h
      cases f with
      | zero => simp only [nthO, Option.some.injEq] at h; subst h; rfl
      | succ f => simpa [nthO] using ih f (by simpa [nthO] using h)
  exact this row f h
/-- a function whose equation is known keeps its contract -/
theorem con_of {E : Env} (hE : EnvOk P E) (hm : P.follows .mixedOrders = true) {f : Nat} {fn : Func} {as : List Arg} {R : Type} {o : Option R} {e : R → A × List (List Leaf)} (hf : P.funcs[f]? = some fn)
    (hk : nodupB ((importArgs 0 as).2.map (·.1)) = true) (h : evalF E fn as some = o.bind fun r => some (e r)) : Contract P f as ⟨o, e⟩ :=
  contract_of_eval hE hm hf hk fun r hr => by
    rw [h]
    simp only at hr
    rw [hr]
    rfl
end

end Go.Rf
end

section
set_option linter.unusedVariables false
/-
  A typed evaluator of the translated code: words for the texts that the program rfgen prints.
-/
namespace Go.Rf

def atI {t : Ty} (l : List (den t)) (i : Int) : den t := nthD l i.toNat (dflt t)

/-- a loop at a place of a function, with what goes on behind it -/
def loopG (E : Env) {β : Type} (fn : Func) (p : List Nat) (i : Nat) (KK : Ex → St → Option β) (n : Nat) (σ : St) : Option β :=
  loopQ (headQ E i) (fun σ' k' => evalC E (codeAt (p ++ [0]) (bodyOf fn)) i σ' k') KK n σ

/-- behind what stands in a loop's round: the round's end -/
def roundG (E : Env) {β : Type} (fn : Func) (p : List Nat) (i : Nat) (KK : Ex → St → Option β) (n : Nat) : Ex → St → Option β := fun e σ' =>
  match e with
  | .normal => headQ E i σ' (loopG E fn p i KK n)
  | e => KK e σ'

theorem bind_cond {α β : Type} (b : Bool) (x y : Option α) (f : α → Option β) : (cond b x y).bind f = cond b (x.bind f) (y.bind f) := by cases b <;> rfl
end Go.Rf
end

section
set_option linter.unusedVariables false
/-
  A typed evaluator of the translated code: plain laws of loops over rows.
-/
namespace Go.Rf
open Go.IntWalk

theorem nthD_get {α : Type} : ∀ (l : List α) (j : Nat) (d : α) (h : j < l.length), nthD l j d = l[j]
  | [], j, d, h => by simp at h
  | a :: r, 0, d, h => rfl
  | a :: r, j + 1, d, h => by simpa [nthD] using nthD_get r j d (by simpa using h)
theorem atI_get {t : Ty} (l : List (den t)) (j : Nat) (h : j < l.length) : atI l (j : Int) = l[j] := nthD_get l j _ h
theorem up1 (j : Nat) (h : j < 2 ^ 62) : IntKind.i64.wrap ((j : Int) + 1) = ((j + 1 : Nat) : Int) := by
  rw [i64_in _ (by omega)]; rfl

/-- a loop over a row, from its place j on, that may end ahead of time -/
def scan {α σ ρ : Type} (g : σ → Nat → α → Sum σ ρ) (e : σ → ρ) : σ → Nat → List α → ρ
  | s, _, [] => e s
  | s, j, a :: r => match g s j a with
    | .inl s' => scan g e s' (j + 1) r
    | .inr x => x

theorem scanLoop {α σ ρ : Type} (l : List α) (L : Nat → σ → Int → Option ρ) (g : σ → Nat → α → Sum σ ρ) (e : σ → ρ)
    (hs : ∀ n s j (h : j < l.length), L (n + 1) s j = match g s j l[j] with | .inl s' => L n s' ((j + 1 : Nat) : Int) | .inr x => some x)
    (he : ∀ n s, L (n + 1) s (l.length : Nat) = some (e s)) : ∀ n s j, j ≤ l.length → l.length - j < n → L n s (j : Int) = some (scan g e s j (l.drop j))
  | 0, s, j, _, h => by omega
  | n + 1, s, j, hj, h => by
    rcases Nat.lt_or_ge j l.length with hlt | hge
    · rw [hs n s j hlt, List.drop_eq_getElem_cons hlt, scan]
      cases g s j l[j] with
      | inl s' => exact scanLoop l L g e hs he n s' (j + 1) hlt (by omega)
      | inr x => rfl
    · have : j = l.length := by omega
      subst this
      rw [he, List.drop_length]
      rfl

theorem foldLoop {α σ ρ : Type} (l : List α) (L : Nat → σ → Int → Option ρ) (g : σ → α → σ) (e : σ → ρ)
    (hs : ∀ n s j (h : j < l.length), L (n + 1) s j = L n (g s l[j]) ((j + 1 : Nat) : Int))
    (he : ∀ n s, L (n + 1) s (l.length : Nat) = some (e s)) : ∀ n s j, j ≤ l.length → l.length - j < n → L n s (j : Int) = some (e ((l.drop j).foldl g s))
  | 0, s, j, _, h => by omega
  | n + 1, s, j, hj, h => by
    rcases Nat.lt_or_ge j l.length with hlt | hge
    · rw [hs n s j hlt, List.drop_eq_getElem_cons hlt, List.foldl_cons]
      exact foldLoop l L g e hs he n _ (j + 1) hlt (by omega)
    · have : j = l.length := by omega
      subst this
      rw [he, List.drop_length]
      rfl

theorem scan_all {α : Type} (t : α → Bool) (e : Bool) : ∀ (l : List α) (j : Nat), scan (fun (_ : Unit) _ a => cond (t a) (.inl ()) (.inr false)) (fun _ => e) () j l = (l.all t && e)
  | [], j => by simp [scan]
  | a :: r, j => by
    rw [scan, List.all_cons]
    cases h : t a with
    | true => simp [scan_all t e r]
    | false => simp
end Go.Rf
end
