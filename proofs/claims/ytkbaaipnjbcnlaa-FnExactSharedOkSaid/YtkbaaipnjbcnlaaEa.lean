/-
  The functions that the shared rows reach, as plain Lean functions, and their contracts. (A part of the proofs of this seat.)
-/
import Derived.Test.YtkbaaipnjbcnlaaChecked
import Derived.Test.YtkbaaipnjbcnlaaRb
import Derived.KernelRfl
import Derived.IntWalk

section
/-
  The functions that the shared rows reach, as plain Lean functions: the first of them, which call none.
-/
namespace Go.Proofs.Ytkbaaipnjbcnlaa.Ev
open Go.Rf
abbrev i64 : Ty := .int .i64
abbrev pace : Ty := .pair i64 (.pair i64 i64)
def tyT : List (Nat × TyI) := [(3, ⟨i64, false, 0⟩), (4, ⟨.bool, false, 0⟩), (25, ⟨.sl pace, false, 24⟩), (33, ⟨pace, true, 0⟩), (22, ⟨.sl pace, false, 24⟩), (61, ⟨pace, true, 0⟩)]
def fldT : FldT := [(33, [(0, 1, false), (1, 1, false), (2, 1, false)]), (61, [(0, 1, false), (1, 1, false), (2, 1, false)])]
def env (tab : Tab) (hint : Nat → Hint) (k : Nat) : Env :=
  { tab := tab, lend := fun _ => [], ty := asc tyT, fld := fldOf fldT, pw := fun _ => none, cw := fun _ => [], hint := hint, eqt := fun _ => false, rm := .own, fuel := k }
theorem tyOk : AllT (TyOk Try.prog) tyT :=
  ⟨.ofInt (b := 8) (by kernel_rfl) (by kernel_rfl), .ofBool (b := 1) (by kernel_rfl) (by kernel_rfl), .ofSl (te := 33) (b := 24) (by kernel_rfl) (by kernel_rfl) (by kernel_rfl),
    .ofAgg (b := 24) (by kernel_rfl) (by kernel_rfl), .ofSl (te := 61) (b := 24) (by kernel_rfl) (by kernel_rfl) (by kernel_rfl), .ofAgg (b := 24) (by kernel_rfl) (by kernel_rfl), trivial⟩
theorem fldOk : AllF Try.prog fldT :=
  ⟨⟨⟨by kernel_rfl, by kernel_rfl⟩, ⟨by kernel_rfl, by kernel_rfl⟩, ⟨by kernel_rfl, by kernel_rfl⟩, trivial⟩, ⟨⟨by kernel_rfl, by kernel_rfl⟩, ⟨by kernel_rfl, by kernel_rfl⟩, ⟨by kernel_rfl, by kernel_rfl⟩, trivial⟩, trivial⟩
theorem mixed : Try.prog.follows .mixedOrders = true := by kernel_rfl

def I (n : Int) : XL := .l (.v (.int .i64 n))
def iL (n : Int) : Leaf := .v (.int .i64 n)
def bL (n : Bool) : Leaf := .v (.bool n)
def noTab : Tab := fun _ _ => none
def noHint : Nat → Hint := fun _ => ⟨[], []⟩

def inP {β : Type} (a b c : Int) (K : Bool → Option β) : Option β := cond (decide (a ≥ b)) (K (decide (a ≤ c))) (K false)
theorem in47 {β : Type} (k : Nat) (a b c : Int) (K : A × List (List Leaf) → Option β) :
    evalF (env noTab noHint k) Try.f47 [.one (I a), .one (I b), .one (I c)] K = inP a b c (fun r => K (.one (bL r), [])) := by kernel_rfl
theorem in49 {β : Type} (k : Nat) (a b c : Int) (K : A × List (List Leaf) → Option β) :
    evalF (env noTab noHint k) Try.f49 [.one (I a), .one (I b), .one (I c)] K = inP a b c (fun r => K (.one (bL r), [])) := by kernel_rfl
def eqPaceP {β : Type} (a b c a' b' c' : Int) (K : Bool → Option β) : Option β := cond (a != a') (K false) (cond (b != b') (K false) (cond (c != c') (K false) (K true)))
theorem eqPace53 {β : Type} (k : Nat) (a b c a' b' c' : Int) (K : A × List (List Leaf) → Option β) :
    evalF (env noTab noHint k) Try.f53 [.agg [I a, I b, I c], .agg [I a', I b', I c']] K = eqPaceP a b c a' b' c' (fun r => K (.one (bL r), [])) := by kernel_rfl
theorem toPace48 {β : Type} (k : Nat) (a b c : Int) (K : A × List (List Leaf) → Option β) :
    evalF (env noTab noHint k) Try.f48 [.agg [I a, I b, I c]] K = K (.agg [iL a, iL b, iL c], []) := by kernel_rfl
def szP {β : Type} (l : List (den pace)) (n : Int) (K : Int → Option β) : Option β :=
  cond (decide (IntKind.i64.wrap (n - (l.length : Nat)) < 0)) (K (-1)) (K (IntKind.i64.wrap (n - (l.length : Nat))))
theorem sz15 {β : Type} (k : Nat) (l : List (den pace)) (n : Int) (K : A × List (List Leaf) → Option β) :
    evalF (env noTab noHint k) Try.f15 [.one (.l (.s .ro pace l)), .one (I n)] K = szP l n (fun r => K (.one (iL r), [])) := by kernel_rfl
end Go.Proofs.Ytkbaaipnjbcnlaa.Ev
end

section
/-
  The functions that the shared rows reach, as plain Lean functions: a pace, paces.
-/
namespace Go.Proofs.Ytkbaaipnjbcnlaa.Ev
open Go.Rf
def inF (a b c : Int) : Option Bool := inP a b c some
def eqPaceF (a b c a' b' c' : Int) : Option Bool := eqPaceP a b c a' b' c' some
def szF (l : List (den pace)) (n : Int) : Option Int := szP l n some
def tab1 : Tab
  | 47, [.one (.l (.v (.int .i64 a))), .one (.l (.v (.int .i64 b))), .one (.l (.v (.int .i64 c)))] => some ⟨inF a b c, fun r => (.one (bL r), [])⟩
  | 49, [.one (.l (.v (.int .i64 a))), .one (.l (.v (.int .i64 b))), .one (.l (.v (.int .i64 c)))] => some ⟨inF a b c, fun r => (.one (bL r), [])⟩
  | 53, [.agg [.l (.v (.int .i64 a)), .l (.v (.int .i64 b)), .l (.v (.int .i64 c))], .agg [.l (.v (.int .i64 a')), .l (.v (.int .i64 b')), .l (.v (.int .i64 c'))]] => some ⟨eqPaceF a b c a' b' c', fun r => (.one (bL r), [])⟩
  | 48, [.agg [.l (.v (.int .i64 a)), .l (.v (.int .i64 b)), .l (.v (.int .i64 c))]] => some ⟨some (a, b, c), fun r => (.agg [iL r.1, iL r.2.1, iL r.2.2], [])⟩
  | _, _ => none
def okP {β : Type} (a b c : Int) (K : Bool → Option β) : Option β :=
  (inF a 1 64).bind fun r => cond r ((inF b 2 64).bind fun r => cond r ((inF c 0 (IntKind.i64.wrap (a - 1))).bind fun r => K r) (K false)) (K false)
theorem ok46 {β : Type} (k : Nat) (a b c : Int) (K : A × List (List Leaf) → Option β) :
   evalF (env tab1 noHint k) Try.f46 [.agg [I a, I b, I c]] K = okP a b c (fun r => K (.one (bL r), [])) := by kernel_rfl
theorem ok52 {β : Type} (k : Nat) (a b c : Int) (K : A × List (List Leaf) → Option β) :
   evalF (env tab1 noHint k) Try.f52 [.agg [I a, I b, I c]] K = okP a b c (fun r => K (.one (bL r), [])) := by kernel_rfl
end Go.Proofs.Ytkbaaipnjbcnlaa.Ev
end

section
/-
  The functions that the shared rows reach, as plain Lean functions: rounds.
-/
namespace Go.Proofs.Ytkbaaipnjbcnlaa.Ev
open Go.Rf
def okF (a b c : Int) : Option Bool := okP a b c some
def tab2 : Tab
  | 46, [.agg [.l (.v (.int .i64 a)), .l (.v (.int .i64 b)), .l (.v (.int .i64 c))]] => some ⟨okF a b c, fun r => (.one (bL r), [])⟩
  | 52, [.agg [.l (.v (.int .i64 a)), .l (.v (.int .i64 b)), .l (.v (.int .i64 c))]] => some ⟨okF a b c, fun r => (.one (bL r), [])⟩
  | f, xs => tab1 f xs
def hint16 : Nat → Hint | 0 => ⟨[(0, .plain), (2, .plain), (3, .plain)], []⟩ | _ => ⟨[], []⟩
def roA (l : List (den pace)) : List Arg := [.one (.l (.s .ro pace l))]
def dA : A := .one .d
def s16 (l : List (den pace)) (i : Int) : St := ⟨[.one (.s .ro pace l), dA, .one (bL false), .one (iL i), dA, dA, dA, dA, dA, dA, dA, dA, dA, dA, dA, dA, dA, dA, dA], []⟩
def at_ (l : List (den pace)) (i : Int) : den pace := nthD l i.toNat (dflt pace)
/-- are all paces from place i on right, and how many are there -/
def l16 (l : List (den pace)) : Nat → Int → Option Bool
  | 0, _ => none
  | n + 1, i => cond (decide (i < (l.length : Nat)))
      (cond (decide (0 ≤ i)) (cond (decide (i < (l.length : Nat))) ((okF (at_ l i).1 (at_ l i).2.1 (at_ l i).2.2).bind fun r => cond (!r) (some false) (l16 l n (IntKind.i64.wrap (i + 1)))) none) none)
      (inF (l.length : Nat) 1 5)
theorem st16 {β : Type} (k : Nat) (l : List (den pace)) (K : A × List (List Leaf) → Option β) :
    evalF (env tab2 hint16 k) Try.f16 (roA l) K = loopF (env tab2 hint16 k) Try.f16 (roA l) K [1, 0, 1, 0] 0 k (s16 l 0) := by kernel_rfl
theorem rd16 {β : Type} (k n : Nat) (l : List (den pace)) (i : Int) (K : A × List (List Leaf) → Option β) :
    loopF (env tab2 hint16 k) Try.f16 (roA l) K [1, 0, 1, 0] 0 (n + 1) (s16 l i) =
      cond (decide (i < (l.length : Nat)))
        (cond (decide (0 ≤ i)) (cond (decide (i < (l.length : Nat))) ((okF (at_ l i).1 (at_ l i).2.1 (at_ l i).2.2).bind fun r =>
          cond (!r) (K (.one (bL false), [])) (loopF (env tab2 hint16 k) Try.f16 (roA l) K [1, 0, 1, 0] 0 n (s16 l (IntKind.i64.wrap (i + 1))))) none) none)
        ((inF (l.length : Nat) 1 5).bind fun r => K (.one (bL r), [])) := by kernel_rfl
theorem lp16 {β : Type} (k : Nat) (l : List (den pace)) (K : A × List (List Leaf) → Option β) : ∀ (n : Nat) (i : Int),
    loopF (env tab2 hint16 k) Try.f16 (roA l) K [1, 0, 1, 0] 0 n (s16 l i) = (l16 l n i).bind fun r => K (.one (bL r), [])
  | 0, i => rfl
  | n + 1, i => by
    rw [rd16, l16]
    cases decide (i < (l.length : Nat)) with
    | false => rfl
    | true =>
      cases decide (0 ≤ i) with
      | false => rfl
      | true =>
        simp only [cond_true]
        cases okF (at_ l i).1 (at_ l i).2.1 (at_ l i).2.2 with
        | none => rfl
        | some r =>
          cases r with
          | false => rfl
          | true => exact lp16 k l K n _
theorem ev16 {β : Type} (k : Nat) (l : List (den pace)) (K : A × List (List Leaf) → Option β) :
    evalF (env tab2 hint16 k) Try.f16 (roA l) K = (l16 l k 0).bind fun r => K (.one (bL r), []) := (st16 k l K).trans (lp16 k l K k 0)
end Go.Proofs.Ytkbaaipnjbcnlaa.Ev
end

section
/-
  The functions that the shared rows reach, as plain Lean functions: a search by a function handed over.
-/
namespace Go.Proofs.Ytkbaaipnjbcnlaa.Ev
open Go.Rf
theorem bad51 {β : Type} (k : Nat) (a b c : Int) (K : A × List (List Leaf) → Option β) :
   evalF (env tab2 noHint k) Try.f51 [.agg [I a, I b, I c]] K = (okF a b c).bind fun r => K (.one (bL (!r)), []) := by kernel_rfl
def tab3 : Tab
  | 51, [.agg [.l (.v (.int .i64 a)), .l (.v (.int .i64 b)), .l (.v (.int .i64 c))]] => some ⟨okF a b c, fun r => (.one (bL (!r)), [])⟩
  | f, xs => tab2 f xs
def hint80 : Nat → Hint | 0 => ⟨[(0, .plain), (1, .plain), (4, .plain), (7, .plain), (8, .plain)], []⟩ | _ => ⟨[], []⟩
def fnA (l : List (den pace)) (f : Nat) : List Arg := [.one (.l (.s .ro pace l)), .one (.fn f [])]
def s80 (l : List (den pace)) (f : Nat) (i : Int) : St := ⟨[.one (.s .ro pace l), .one (.fn f []), dA, dA, .one (iL 0), dA, dA, .one (iL (l.length : Nat)), .one (iL i), dA, dA, dA, dA, dA, dA, dA, dA, dA, dA], []⟩
theorem st80 {β : Type} (k : Nat) (l : List (den pace)) (K : A × List (List Leaf) → Option β) :
    evalF (env tab3 hint80 k) Try.f80 (fnA l 51) K = loopF (env tab3 hint80 k) Try.f80 (fnA l 51) K [1, 0, 1, 0] 0 k (s80 l 51 0) := by kernel_rfl
theorem rd80 {β : Type} (k n : Nat) (l : List (den pace)) (i : Int) (K : A × List (List Leaf) → Option β) :
    loopF (env tab3 hint80 k) Try.f80 (fnA l 51) K [1, 0, 1, 0] 0 (n + 1) (s80 l 51 i) =
      cond (decide (i < (l.length : Nat)))
        (cond (decide (0 ≤ i)) (cond (decide (i < (l.length : Nat))) ((okF (at_ l i).1 (at_ l i).2.1 (at_ l i).2.2).bind fun r =>
          cond (!r) (K (.one (iL i), [])) (loopF (env tab3 hint80 k) Try.f80 (fnA l 51) K [1, 0, 1, 0] 0 n (s80 l 51 (IntKind.i64.wrap (i + 1))))) none) none)
        (K (.one (iL (-1)), [])) := by kernel_rfl
def l80 (l : List (den pace)) : Nat → Int → Option Int
  | 0, _ => none
  | n + 1, i => cond (decide (i < (l.length : Nat)))
      (cond (decide (0 ≤ i)) (cond (decide (i < (l.length : Nat))) ((okF (at_ l i).1 (at_ l i).2.1 (at_ l i).2.2).bind fun r => cond (!r) (some i) (l80 l n (IntKind.i64.wrap (i + 1)))) none) none)
      (some (-1))
theorem lp80 {β : Type} (k : Nat) (l : List (den pace)) (K : A × List (List Leaf) → Option β) : ∀ (n : Nat) (i : Int),
    loopF (env tab3 hint80 k) Try.f80 (fnA l 51) K [1, 0, 1, 0] 0 n (s80 l 51 i) = (l80 l n i).bind fun r => K (.one (iL r), [])
  | 0, i => rfl
  | n + 1, i => by
    rw [rd80, l80]
    cases decide (i < (l.length : Nat)) with
    | false => rfl
    | true =>
      cases decide (0 ≤ i) with
      | false => rfl
      | true =>
        simp only [cond_true]
        cases okF (at_ l i).1 (at_ l i).2.1 (at_ l i).2.2 with
        | none => rfl
        | some r =>
          cases r with
          | false => rfl
          | true => exact lp80 k l K n _
theorem ev80 {β : Type} (k : Nat) (l : List (den pace)) (K : A × List (List Leaf) → Option β) :
    evalF (env tab3 hint80 k) Try.f80 (fnA l 51) K = (l80 l k 0).bind fun r => K (.one (iL r), []) := (st80 k l K).trans (lp80 k l K k 0)
end Go.Proofs.Ytkbaaipnjbcnlaa.Ev
end

section
/-
  The functions that the shared rows reach, as plain Lean functions: paces shared, by the program.
-/
namespace Go.Proofs.Ytkbaaipnjbcnlaa.Ev
open Go.Rf
def tab4 (k : Nat) : Tab
  | 80, [.one (.l (.s .ro (.pair (.int .i64) (.pair (.int .i64) (.int .i64))) l)), .one (.fn 51 [])] => some ⟨l80 l k 0, fun r => (.one (iL r), [])⟩
  | f, xs => tab3 f xs
theorem ev50 {β : Type} (k : Nat) (l : List (den pace)) (K : A × List (List Leaf) → Option β) :
    evalF (env (tab4 k) noHint k) Try.f50 (fnA l 51) K = (l80 l k 0).bind fun r => K (.one (bL (decide (r ≥ 0))), []) := by kernel_rfl
def tab5 (k : Nat) : Tab
  | 50, [.one (.l (.s .ro (.pair (.int .i64) (.pair (.int .i64) (.int .i64))) l)), .one (.fn 51 [])] => some ⟨l80 l k 0, fun r => (.one (bL (decide (r ≥ 0))), [])⟩
  | f, xs => tab4 k f xs
def ok18P {β : Type} (k : Nat) (l : List (den pace)) (K : Bool → Option β) : Option β :=
  (inF (l.length : Nat) 1 5).bind fun r => cond r ((l80 l k 0).bind fun r => K (!(decide (r ≥ 0)))) (K false)
theorem ev18 {β : Type} (k : Nat) (l : List (den pace)) (K : A × List (List Leaf) → Option β) :
    evalF (env (tab5 k) noHint k) Try.f18 (roA l) K = ok18P k l fun r => K (.one (bL r), []) := by kernel_rfl
end Go.Proofs.Ytkbaaipnjbcnlaa.Ev
end

section
/-
  The functions that the shared rows reach, as plain Lean functions: are two rows of paces equal.
-/
namespace Go.Proofs.Ytkbaaipnjbcnlaa.Ev
open Go.Rf
def hint19 : Nat → Hint | 0 => ⟨[(0, .plain), (1, .plain), (4, .plain), (5, .plain)], []⟩ | _ => ⟨[], []⟩
def roB (l m : List (den pace)) : List Arg := [.one (.l (.s .ro pace l)), .one (.l (.s .ro pace m))]
def s19 (l m : List (den pace)) (i : Int) : St := ⟨[.one (.s .ro pace l), .one (.s .ro pace m), dA, dA, .one (bL false), .one (iL i), dA, dA, dA, dA, dA, dA, dA, dA, dA, dA, dA, dA, dA, dA, dA, dA, dA, dA, dA, dA, dA], []⟩
theorem st19 {β : Type} (k : Nat) (l m : List (den pace)) (K : A × List (List Leaf) → Option β) :
    evalF (env tab2 hint19 k) Try.f19 (roB l m) K = cond (((l.length : Nat) : Int) != (m.length : Nat)) (K (.one (bL false), []))
      (loopF (env tab2 hint19 k) Try.f19 (roB l m) K [1, 1, 0, 1, 0] 0 k (s19 l m 0)) := by kernel_rfl
theorem rd19 {β : Type} (k n : Nat) (l m : List (den pace)) (i : Int) (K : A × List (List Leaf) → Option β) :
    loopF (env tab2 hint19 k) Try.f19 (roB l m) K [1, 1, 0, 1, 0] 0 (n + 1) (s19 l m i) =
      cond (decide (i < (l.length : Nat)))
        (cond (decide (0 ≤ i)) (cond (decide (i < (l.length : Nat))) (cond (decide (0 ≤ i)) (cond (decide (i < (m.length : Nat)))
          ((eqPaceF (at_ l i).1 (at_ l i).2.1 (at_ l i).2.2 (at_ m i).1 (at_ m i).2.1 (at_ m i).2.2).bind fun r =>
          cond (!r) (K (.one (bL false), [])) (loopF (env tab2 hint19 k) Try.f19 (roB l m) K [1, 1, 0, 1, 0] 0 n (s19 l m (IntKind.i64.wrap (i + 1))))) none) none) none) none)
        (K (.one (bL true), [])) := by kernel_rfl
def l19 (l m : List (den pace)) : Nat → Int → Option Bool
  | 0, _ => none
  | n + 1, i => cond (decide (i < (l.length : Nat)))
        (cond (decide (0 ≤ i)) (cond (decide (i < (l.length : Nat))) (cond (decide (0 ≤ i)) (cond (decide (i < (m.length : Nat)))
          ((eqPaceF (at_ l i).1 (at_ l i).2.1 (at_ l i).2.2 (at_ m i).1 (at_ m i).2.1 (at_ m i).2.2).bind fun r =>
          cond (!r) (some false) (l19 l m n (IntKind.i64.wrap (i + 1)))) none) none) none) none)
        (some true)
theorem lp19 {β : Type} (k : Nat) (l m : List (den pace)) (K : A × List (List Leaf) → Option β) : ∀ (n : Nat) (i : Int),
    loopF (env tab2 hint19 k) Try.f19 (roB l m) K [1, 1, 0, 1, 0] 0 n (s19 l m i) = (l19 l m n i).bind fun r => K (.one (bL r), [])
  | 0, i => rfl
  | n + 1, i => by
    rw [rd19, l19]
    cases decide (i < (l.length : Nat)) with
    | false => rfl
    | true =>
      cases decide (0 ≤ i) with
      | false => rfl
      | true =>
        cases decide (i < (m.length : Nat)) with
        | false => rfl
        | true =>
          simp only [cond_true]
          cases eqPaceF (at_ l i).1 (at_ l i).2.1 (at_ l i).2.2 (at_ m i).1 (at_ m i).2.1 (at_ m i).2.2 with
          | none => rfl
          | some r =>
            cases r with
            | false => rfl
            | true => exact lp19 k l m K n _
def l19F (k : Nat) (l m : List (den pace)) : Option Bool := cond (((l.length : Nat) : Int) != (m.length : Nat)) (some false) (l19 l m k 0)
theorem ev19 {β : Type} (k : Nat) (l m : List (den pace)) (K : A × List (List Leaf) → Option β) :
    evalF (env tab2 hint19 k) Try.f19 (roB l m) K = (l19F k l m).bind fun r => K (.one (bL r), []) := by
  rw [st19, l19F, lp19]
  cases ((l.length : Nat) : Int) != (m.length : Nat) <;> rfl
end Go.Proofs.Ytkbaaipnjbcnlaa.Ev
end

section
/-
  The functions that the shared rows reach, as plain Lean functions: a row of paces is copied, pace by pace.
-/
namespace Go.Proofs.Ytkbaaipnjbcnlaa.Ev
open Go.Rf
def hint17 : Nat → Hint | 0 => ⟨[(0, .plain), (3, .plain), (4, .plain)], [(7000, .plain)]⟩ | _ => ⟨[], []⟩
def s17 (l m : List (den pace)) (i : Int) : St := ⟨[.one (.s .ro pace l), dA, dA, .one (.a (.cell 7000) 0 0 none), .one (iL i), dA, dA, dA, dA, dA, dA, dA, dA, dA, dA, dA, dA, dA, dA, dA, dA, dA, dA], [(7000, ⟨.s .own pace m, 0, 0⟩)]⟩
def roA' (l : List (den pace)) : List Arg := [.one (.l (.s .ro pace l))]
theorem st17 {β : Type} (k : Nat) (l : List (den pace)) (K : A × List (List Leaf) → Option β) :
    evalF (env tab2 hint17 k) Try.f17 (roA' l) K = cond (decide (0 ≤ ((l.length : Nat) : Int)) && decide (((l.length : Nat) : Int) = (l.length : Nat)) && decide (((l.length : Nat) : Int) * (24 : Nat) ≤ 140737488355328))
      (loopF (env tab2 hint17 k) Try.f17 (roA' l) K [1, 1, 0, 1, 0] 0 k (s17 l (List.replicate (Int.toNat (l.length : Nat)) (dflt pace)) 0)) none := by kernel_rfl
theorem rd17 {β : Type} (k n : Nat) (l m : List (den pace)) (i : Int) (K : A × List (List Leaf) → Option β) :
    loopF (env tab2 hint17 k) Try.f17 (roA' l) K [1, 1, 0, 1, 0] 0 (n + 1) (s17 l m i) =
      cond (decide (i < (l.length : Nat)))
        (cond (decide (0 ≤ i)) (cond (decide (i < (l.length : Nat))) (cond (decide (0 ≤ i)) (cond (decide (i < (m.length : Nat)))
          (loopF (env tab2 hint17 k) Try.f17 (roA' l) K [1, 1, 0, 1, 0] 0 n (s17 l (m.set i.toNat (at_ l i)) (IntKind.i64.wrap (i + 1)))) none) none) none) none)
        (K (.one (.s .own pace m), [])) := by kernel_rfl
def l17 (l : List (den pace)) : Nat → List (den pace) → Int → Option (List (den pace))
  | 0, _, _ => none
  | n + 1, m, i => cond (decide (i < (l.length : Nat)))
        (cond (decide (0 ≤ i)) (cond (decide (i < (l.length : Nat))) (cond (decide (0 ≤ i)) (cond (decide (i < (m.length : Nat)))
          (l17 l n (m.set i.toNat (at_ l i)) (IntKind.i64.wrap (i + 1))) none) none) none) none)
        (some m)
theorem lp17 {β : Type} (k : Nat) (l : List (den pace)) (K : A × List (List Leaf) → Option β) : ∀ (n : Nat) (m : List (den pace)) (i : Int),
    loopF (env tab2 hint17 k) Try.f17 (roA' l) K [1, 1, 0, 1, 0] 0 n (s17 l m i) = (l17 l n m i).bind fun r => K (.one (.s .own pace r), [])
  | 0, m, i => rfl
  | n + 1, m, i => by
    rw [rd17, l17]
    cases decide (i < (l.length : Nat)) with
    | false => rfl
    | true =>
      cases decide (0 ≤ i) with
      | false => rfl
      | true =>
        cases decide (i < (m.length : Nat)) with
        | false => rfl
        | true => exact lp17 k l K n _ _
def l17F (k : Nat) (l : List (den pace)) : Option (List (den pace)) :=
  cond (decide (0 ≤ ((l.length : Nat) : Int)) && decide (((l.length : Nat) : Int) = (l.length : Nat)) && decide (((l.length : Nat) : Int) * (24 : Nat) ≤ 140737488355328))
    (l17 l k (List.replicate (Int.toNat (l.length : Nat)) (dflt pace)) 0) none
theorem ev17 {β : Type} (k : Nat) (l : List (den pace)) (K : A × List (List Leaf) → Option β) :
    evalF (env tab2 hint17 k) Try.f17 (roA' l) K = (l17F k l).bind fun r => K (.one (.s .own pace r), []) := by
  rw [st17, l17F, lp17]
  cases (decide (0 ≤ ((l.length : Nat) : Int)) && decide (((l.length : Nat) : Int) = (l.length : Nat)) && decide (((l.length : Nat) : Int) * (24 : Nat) ≤ 140737488355328)) <;> rfl
end Go.Proofs.Ytkbaaipnjbcnlaa.Ev
end

section
/-
  The functions that the shared rows reach, as plain Lean functions: the first law.
-/
namespace Go.Proofs.Ytkbaaipnjbcnlaa.Ev
open Go.Rf
def ok18F (k : Nat) (l : List (den pace)) : Option Bool := ok18P k l some
def tab6 (k : Nat) : Tab
  | 15, [.one (.l (.s .ro (.pair (.int .i64) (.pair (.int .i64) (.int .i64))) l)), .one (.l (.v (.int .i64 n)))] => some ⟨szF l n, fun r => (.one (iL r), [])⟩
  | 16, [.one (.l (.s .ro (.pair (.int .i64) (.pair (.int .i64) (.int .i64))) l))] => some ⟨l16 l k 0, fun r => (.one (bL r), [])⟩
  | 17, [.one (.l (.s .ro (.pair (.int .i64) (.pair (.int .i64) (.int .i64))) l))] => some ⟨l17F k l, fun r => (.one (.s .own pace r), [])⟩
  | 18, [.one (.l (.s .ro (.pair (.int .i64) (.pair (.int .i64) (.int .i64))) l))] => some ⟨ok18F k l, fun r => (.one (bL r), [])⟩
  | 19, [.one (.l (.s .ro (.pair (.int .i64) (.pair (.int .i64) (.int .i64))) l)), .one (.l (.s .ro (.pair (.int .i64) (.pair (.int .i64) (.int .i64))) m))] => some ⟨l19F k l m, fun r => (.one (bL r), [])⟩
  | f, xs => tab5 k f xs
def law3P {β : Type} (k : Nat) (l : List (den pace)) (K : Bool → Option β) : Option β :=
  (szF l 1048576).bind fun n => cond (decide (n < 0)) (K true)
    ((l17F k l).bind fun m => (l16 m k 0).bind fun a => (l17F k l).bind fun m2 => (ok18F k m2).bind fun b =>
      cond (!(b == a)) (K false) ((l17F k l).bind fun m3 => (l19F k m2 m3).bind fun e => cond (!e) (K false) (K true)))
theorem ev3 {β : Type} (k : Nat) (l : List (den pace)) (K : A × List (List Leaf) → Option β) :
    evalF (env (tab6 k) noHint k) Try.f3 (roA' l) K = law3P k l fun r => K (.one (bL r), []) := by kernel_rfl
end Go.Proofs.Ytkbaaipnjbcnlaa.Ev
end

section
set_option linter.unusedVariables false
/-
  The functions that the shared rows reach keep their contracts.
-/
namespace Go.Proofs.Ytkbaaipnjbcnlaa.Ev
open Go.Rf
theorem bldOk : AllT (fun t i => i.agg = true → BldOk Try.prog t (fldOf fldT t)) tyT :=
  ⟨nofun, nofun, nofun, fun _ => bld_of (row := [(0, 1, false), (1, 1, false), (2, 1, false)]) rfl (by kernel_rfl) (by kernel_rfl), nofun, fun _ => bld_of (row := [(0, 1, false), (1, 1, false), (2, 1, false)]) rfl (by kernel_rfl) (by kernel_rfl), trivial⟩
theorem tysOk (tab : Tab) (hint : Nat → Hint) (k : Nat) : TysOk Try.prog (env tab hint k) :=
  ⟨fun t i h => tyOk.get h, fun s f z h => fldOk.get h, fun t i h => bldOk.get h, fun t i h => (by cases h)⟩
theorem envOk {tab : Tab} (h : TabFn Try.prog tab) (hint : Nat → Hint) (k : Nat) : EnvOk Try.prog (env tab hint k) := EnvOk.of (tysOk tab hint k) h

theorem inP_F {β : Type} (a b c : Int) (K : Bool → Option β) : inP a b c K = (inF a b c).bind K := by unfold inF inP; cases decide (a ≥ b) <;> rfl
theorem eqPaceP_F {β : Type} (a b c a' b' c' : Int) (K : Bool → Option β) : eqPaceP a b c a' b' c' K = (eqPaceF a b c a' b' c').bind K := by
  unfold eqPaceF eqPaceP; cases a != a' <;> cases b != b' <;> cases c != c' <;> rfl
theorem szP_F {β : Type} (l : List (den pace)) (n : Int) (K : Int → Option β) : szP l n K = (szF l n).bind K := by
  unfold szF szP; cases decide (IntKind.i64.wrap (n - (l.length : Nat)) < 0) <;> rfl
theorem okP_F {β : Type} (a b c : Int) (K : Bool → Option β) : okP a b c K = (okF a b c).bind K := by
  unfold okF okP
  cases inF a 1 64 with
  | none => rfl
  | some r =>
    cases r with
    | false => rfl
    | true =>
      simp only [Option.bind_some, cond_true]
      cases inF b 2 64 with
      | none => rfl
      | some r =>
        cases r with
        | false => rfl
        | true =>
          simp only [Option.bind_some, cond_true]
          cases inF c 0 (IntKind.i64.wrap (a - 1)) <;> rfl
theorem ok18P_F {β : Type} (k : Nat) (l : List (den pace)) (K : Bool → Option β) : ok18P k l K = (ok18F k l).bind K := by
  unfold ok18F ok18P
  cases inF (l.length : Nat) 1 5 with
  | none => rfl
  | some r =>
    cases r with
    | false => rfl
    | true =>
      simp only [Option.bind_some, cond_true]
      cases l80 l k 0 <;> rfl

theorem con47 (a b c : Int) : Contract Try.prog 47 [.one (I a), .one (I b), .one (I c)] ⟨inF a b c, fun r => (.one (bL r), [])⟩ :=
  con_of (envOk .none noHint 0) mixed Try.func47 rfl ((in47 0 a b c some).trans (inP_F ..))
theorem con49 (a b c : Int) : Contract Try.prog 49 [.one (I a), .one (I b), .one (I c)] ⟨inF a b c, fun r => (.one (bL r), [])⟩ :=
  con_of (envOk .none noHint 0) mixed Try.func49 rfl ((in49 0 a b c some).trans (inP_F ..))
theorem con53 (a b c a' b' c' : Int) : Contract Try.prog 53 [.agg [I a, I b, I c], .agg [I a', I b', I c']] ⟨eqPaceF a b c a' b' c', fun r => (.one (bL r), [])⟩ :=
  con_of (envOk .none noHint 0) mixed Try.func53 rfl ((eqPace53 0 a b c a' b' c' some).trans (eqPaceP_F ..))
theorem con48 (a b c : Int) : Contract Try.prog 48 [.agg [I a, I b, I c]] ⟨some (a, b, c), fun (r : Int × Int × Int) => (.agg [iL r.1, iL r.2.1, iL r.2.2], [])⟩ :=
  con_of (envOk .none noHint 0) mixed Try.func48 rfl (toPace48 0 a b c some)
theorem con15 (l : List (den pace)) (n : Int) : Contract Try.prog 15 [.one (.l (.s .ro pace l)), .one (I n)] ⟨szF l n, fun r => (.one (iL r), [])⟩ :=
  con_of (envOk .none noHint 0) mixed Try.func15 rfl ((sz15 0 l n some).trans (szP_F ..))

theorem tab1Ok : TabFn Try.prog tab1 := by
  constructor <;> intro f xs cr h <;> unfold tab1 at h <;> split at h <;> first | (simp only [Option.some.injEq] at h; subst h) | (simp at h; done)
  · exact con47 _ _ _
  · exact con49 _ _ _
  · exact con53 _ _ _ _ _ _
  · exact con48 _ _ _
  · exact .of (by kernel_rfl)
  · exact .of (by kernel_rfl)
  · exact .of (by kernel_rfl)
  · exact .of (by kernel_rfl)
theorem con46 (a b c : Int) : Contract Try.prog 46 [.agg [I a, I b, I c]] ⟨okF a b c, fun r => (.one (bL r), [])⟩ :=
  con_of (envOk tab1Ok noHint 0) mixed Try.func46 rfl ((ok46 0 a b c some).trans (okP_F ..))
theorem con52 (a b c : Int) : Contract Try.prog 52 [.agg [I a, I b, I c]] ⟨okF a b c, fun r => (.one (bL r), [])⟩ :=
  con_of (envOk tab1Ok noHint 0) mixed Try.func52 rfl ((ok52 0 a b c some).trans (okP_F ..))
theorem tab2Ok : TabFn Try.prog tab2 := by
  constructor <;> intro f xs cr h <;> unfold tab2 at h <;> split at h <;> first | (simp only [Option.some.injEq] at h; subst h) | skip
  · exact con46 _ _ _
  · exact con52 _ _ _
  · exact tab1Ok.ok _ _ _ h
  · exact .of (by kernel_rfl)
  · exact .of (by kernel_rfl)
  · exact tab1Ok.fn _ _ _ h
theorem con16 (k : Nat) (l : List (den pace)) : Contract Try.prog 16 (roA l) ⟨l16 l k 0, fun r => (.one (bL r), [])⟩ :=
  con_of (envOk tab2Ok hint16 k) mixed Try.func16 rfl (ev16 k l some)
theorem con17 (k : Nat) (l : List (den pace)) : Contract Try.prog 17 (roA l) ⟨l17F k l, fun r => (.one (.s .own pace r), [])⟩ :=
  con_of (envOk tab2Ok hint17 k) mixed Try.func17 rfl (ev17 k l some)
theorem con19 (k : Nat) (l m : List (den pace)) : Contract Try.prog 19 (roB l m) ⟨l19F k l m, fun r => (.one (bL r), [])⟩ :=
  con_of (envOk tab2Ok hint19 k) mixed Try.func19 rfl (ev19 k l m some)
theorem con51 (a b c : Int) : Contract Try.prog 51 [.agg [I a, I b, I c]] ⟨okF a b c, fun r => (.one (bL (!r)), [])⟩ :=
  con_of (envOk tab2Ok noHint 0) mixed Try.func51 rfl (bad51 0 a b c some)
theorem tab3Ok : TabFn Try.prog tab3 := by
  constructor <;> intro f xs cr h <;> unfold tab3 at h <;> split at h <;> first | (simp only [Option.some.injEq] at h; subst h) | skip
  · exact con51 _ _ _
  · exact tab2Ok.ok _ _ _ h
  · exact .of (by kernel_rfl)
  · exact tab2Ok.fn _ _ _ h
theorem con80 (k : Nat) (l : List (den pace)) : Contract Try.prog 80 (fnA l 51) ⟨l80 l k 0, fun r => (.one (iL r), [])⟩ :=
  con_of (envOk tab3Ok hint80 k) mixed Try.func80 rfl (ev80 k l some)
theorem tab4Ok (k : Nat) : TabFn Try.prog (tab4 k) := by
  constructor <;> intro f xs cr h <;> unfold tab4 at h <;> split at h <;> first | (simp only [Option.some.injEq] at h; subst h) | skip
  · exact con80 _ _
  · exact tab3Ok.ok _ _ _ h
  · exact .of (by kernel_rfl)
  · exact tab3Ok.fn _ _ _ h
theorem con50 (k : Nat) (l : List (den pace)) : Contract Try.prog 50 (fnA l 51) ⟨l80 l k 0, fun r => (.one (bL (decide (r ≥ 0))), [])⟩ :=
  con_of (envOk (tab4Ok k) noHint k) mixed Try.func50 rfl (ev50 k l some)
theorem tab5Ok (k : Nat) : TabFn Try.prog (tab5 k) := by
  constructor <;> intro f xs cr h <;> unfold tab5 at h <;> split at h <;> first | (simp only [Option.some.injEq] at h; subst h) | skip
  · exact con50 _ _
  · exact (tab4Ok k).ok _ _ _ h
  · exact .of (by kernel_rfl)
  · exact (tab4Ok k).fn _ _ _ h
theorem con18 (k : Nat) (l : List (den pace)) : Contract Try.prog 18 (roA l) ⟨ok18F k l, fun r => (.one (bL r), [])⟩ :=
  con_of (envOk (tab5Ok k) noHint k) mixed Try.func18 rfl ((ev18 k l some).trans (ok18P_F ..))
theorem tab6Ok (k : Nat) : TabFn Try.prog (tab6 k) := by
  constructor <;> intro f xs cr h <;> unfold tab6 at h <;> split at h <;> first | (simp only [Option.some.injEq] at h; subst h) | skip
  · exact con15 _ _
  · exact con16 _ _
  · exact con17 _ _
  · exact con18 _ _
  · exact con19 _ _ _
  · exact (tab5Ok k).ok _ _ _ h
  · exact .of (by kernel_rfl)
  · exact .of (by kernel_rfl)
  · exact .of (by kernel_rfl)
  · exact .of (by kernel_rfl)
  · exact .of (by kernel_rfl)
  · exact (tab5Ok k).fn _ _ _ h
def law3F (k : Nat) (l : List (den pace)) : Option Bool := law3P k l some
theorem law3P_F {β : Type} (k : Nat) (l : List (den pace)) (K : Bool → Option β) : law3P k l K = (law3F k l).bind K := by
  unfold law3F law3P
  cases szF l 1048576 with
  | none => rfl
  | some n =>
    simp only [Option.bind_some]
    cases decide (n < 0) with
    | true => rfl
    | false =>
      simp only [cond_false]
      cases l17F k l with
      | none => rfl
      | some m =>
        simp only [Option.bind_some]
        cases l16 m k 0 with
        | none => rfl
        | some a =>
          simp only [Option.bind_some]
          cases ok18F k m with
          | none => rfl
          | some b =>
            simp only [Option.bind_some]
            cases !(b == a) with
            | true => rfl
            | false =>
              simp only [cond_false]
              cases l19F k m m with
              | none => rfl
              | some e => cases e <;> rfl
theorem con3 (k : Nat) (l : List (den pace)) : Contract Try.prog 3 (roA' l) ⟨law3F k l, fun r => (.one (bL r), [])⟩ :=
  con_of (envOk (tab6Ok k) noHint k) mixed Try.func3 rfl ((ev3 k l some).trans (law3P_F ..))
end Go.Proofs.Ytkbaaipnjbcnlaa.Ev
end

section
set_option linter.unusedVariables false
/-
  Paces shared: program and reference say the same, in plain words.
-/
namespace Go.Proofs.Ytkbaaipnjbcnlaa.Ev
open Go.Rf Go.IntWalk

def inB (a b c : Int) : Bool := decide (b ≤ a) && decide (a ≤ c)
theorem inF_eq (a b c : Int) : inF a b c = some (inB a b c) := by
  unfold inF inP inB
  have : decide (a ≥ b) = decide (b ≤ a) := rfl
  rw [this]
  cases decide (b ≤ a) <;> rfl
def okB (p : den pace) : Bool := inB p.1 1 64 && inB p.2.1 2 64 && inB p.2.2 0 (IntKind.i64.wrap (p.1 - 1))
theorem okF_eq (p : den pace) : okF p.1 p.2.1 p.2.2 = some (okB p) := by
  unfold okF okP okB
  rw [inF_eq, inF_eq, inF_eq]
  simp only [Option.bind_some]
  cases inB p.1 1 64 <;> cases inB p.2.1 2 64 <;> rfl

theorem nthD_get {α : Type} : ∀ (l : List α) (j : Nat) (d : α) (h : j < l.length), nthD l j d = l[j]
  | [], j, d, h => by simp at h
  | a :: r, 0, d, h => rfl
  | a :: r, j + 1, d, h => by simpa [nthD] using nthD_get r j d (by simpa using h)
theorem at_get (l : List (den pace)) (j : Nat) (h : j < l.length) : at_ l (j : Int) = l[j] := nthD_get l j _ h
theorem up1 (j : Nat) (h : j < 2 ^ 62) : IntKind.i64.wrap ((j : Int) + 1) = ((j + 1 : Nat) : Int) := by
  rw [i64_in _ (by omega)]; rfl

theorem l16_eq (l : List (den pace)) (hl : l.length < 2 ^ 62) : ∀ (n j : Nat), j ≤ l.length → l.length - j < n →
    l16 l n (j : Int) = some ((l.drop j).all okB && inB (l.length : Nat) 1 5)
  | 0, j, _, h => by omega
  | n + 1, j, hj, h => by
    rw [l16]
    rcases Nat.lt_or_ge j l.length with hlt | hge
    · rw [decide_eq_true (by omega : ((j : Nat) : Int) < (l.length : Nat)), decide_eq_true (by omega : (0 : Int) ≤ (j : Nat))]
      simp only [cond_true]
      rw [at_get l j hlt, okF_eq]
      simp only [Option.bind_some]
      rw [List.drop_eq_getElem_cons hlt, List.all_cons]
      cases okB l[j] with
      | false => rfl
      | true =>
        simp only [Bool.not_true, cond_false, Bool.true_and]
        rw [up1 j (by omega)]
        exact l16_eq l hl n (j + 1) hlt (by omega)
    · rw [decide_eq_false (by omega : ¬ ((j : Nat) : Int) < (l.length : Nat))]
      simp only [cond_false]
      rw [inF_eq, List.drop_eq_nil_of_le hge]
      rfl

theorem l80_eq (l : List (den pace)) (hl : l.length < 2 ^ 62) : ∀ (n j : Nat), j ≤ l.length → l.length - j < n →
    ∃ r, l80 l n (j : Int) = some r ∧ (!(decide (r ≥ 0))) = (l.drop j).all okB
  | 0, j, _, h => by omega
  | n + 1, j, hj, h => by
    rw [l80]
    rcases Nat.lt_or_ge j l.length with hlt | hge
    · rw [decide_eq_true (by omega : ((j : Nat) : Int) < (l.length : Nat)), decide_eq_true (by omega : (0 : Int) ≤ (j : Nat))]
      simp only [cond_true]
      rw [at_get l j hlt, okF_eq]
      simp only [Option.bind_some]
      rw [List.drop_eq_getElem_cons hlt, List.all_cons]
      cases okB l[j] with
      | false => exact ⟨_, rfl, by simp⟩
      | true =>
        simp only [Bool.not_true, cond_false, Bool.true_and]
        rw [up1 j (by omega)]
        exact l80_eq l hl n (j + 1) hlt (by omega)
    · rw [decide_eq_false (by omega : ¬ ((j : Nat) : Int) < (l.length : Nat))]
      simp only [cond_false]
      rw [List.drop_eq_nil_of_le hge]
      exact ⟨_, rfl, rfl⟩

/-- are these paces that share a way -/
def okAll (l : List (den pace)) : Bool := inB (l.length : Nat) 1 5 && l.all okB
theorem ok16 (k : Nat) (l : List (den pace)) (hl : l.length < 2 ^ 62) (hk : l.length < k) : l16 l k 0 = some (okAll l) := by
  have := l16_eq l hl k 0 (Nat.zero_le _) (by omega)
  rw [List.drop_zero, Bool.and_comm] at this
  exact this
theorem ok18 (k : Nat) (l : List (den pace)) (hl : l.length < 2 ^ 62) (hk : l.length < k) : ok18F k l = some (okAll l) := by
  unfold ok18F ok18P okAll
  rw [inF_eq, Option.bind_some]
  cases inB (l.length : Nat) 1 5 with
  | false => rfl
  | true =>
    obtain ⟨r, h1, h2⟩ := l80_eq l hl k 0 (Nat.zero_le _) (by omega)
    rw [show ((0 : Nat) : Int) = 0 from rfl] at h1
    rw [cond_true, h1, Option.bind_some, h2, List.drop_zero]
    rfl

theorem eqPaceF_self (p : den pace) : eqPaceF p.1 p.2.1 p.2.2 p.1 p.2.1 p.2.2 = some true := by
  unfold eqPaceF eqPaceP
  simp
theorem l19_self (l : List (den pace)) (hl : l.length < 2 ^ 62) : ∀ (n j : Nat), j ≤ l.length → l.length - j < n → l19 l l n (j : Int) = some true
  | 0, j, _, h => by omega
  | n + 1, j, hj, h => by
    rw [l19]
    rcases Nat.lt_or_ge j l.length with hlt | hge
    · rw [decide_eq_true (by omega : ((j : Nat) : Int) < (l.length : Nat)), decide_eq_true (by omega : (0 : Int) ≤ (j : Nat))]
      simp only [cond_true]
      rw [eqPaceF_self]
      simp only [Option.bind_some, Bool.not_true, cond_false]
      rw [up1 j (by omega)]
      exact l19_self l hl n (j + 1) hlt (by omega)
    · rw [decide_eq_false (by omega : ¬ ((j : Nat) : Int) < (l.length : Nat))]
      rfl
theorem eq19_self (k : Nat) (l : List (den pace)) (hl : l.length < 2 ^ 62) (hk : l.length < k) : l19F k l l = some true := by
  unfold l19F
  have : (((l.length : Nat) : Int) != (l.length : Nat)) = false := by simp
  rw [this, cond_false]
  exact l19_self l hl k 0 (Nat.zero_le _) (by omega)

theorem l17_eq (l : List (den pace)) (hl : l.length < 2 ^ 62) : ∀ (n j : Nat) (m : List (den pace)), j ≤ l.length → l.length - j < n → m.length = l.length → m.take j = l.take j → l17 l n m (j : Int) = some l
  | 0, j, m, _, h, _, _ => by omega
  | n + 1, j, m, hj, h, hm, ht => by
    rw [l17]
    rcases Nat.lt_or_ge j l.length with hlt | hge
    · rw [decide_eq_true (by omega : ((j : Nat) : Int) < (l.length : Nat)), decide_eq_true (by omega : (0 : Int) ≤ (j : Nat)), decide_eq_true (by omega : ((j : Nat) : Int) < (m.length : Nat))]
      simp only [cond_true]
      rw [up1 j (by omega), at_get l j hlt]
      refine l17_eq l hl n (j + 1) _ hlt (by omega) (by simpa using hm) ?_
      rw [Int.toNat_natCast, List.take_add_one, List.take_add_one]
      simp only [List.getElem?_set]
      rw [if_pos trivial, if_pos (by omega), List.getElem?_eq_getElem hlt]
      congr 1
      rw [List.take_set_of_le (Nat.le_refl _)]
      exact ht
    · rw [decide_eq_false (by omega : ¬ ((j : Nat) : Int) < (l.length : Nat))]
      simp only [cond_false]
      rw [List.take_of_length_le (by omega), List.take_of_length_le (by omega)] at ht
      rw [ht]
theorem copy17 (k : Nat) (l : List (den pace)) (hl : l.length < 2 ^ 42) (hk : l.length < k) : l17F k l = some l := by
  unfold l17F
  rw [decide_eq_true (by omega : (0 : Int) ≤ ((l.length : Nat) : Int)), decide_eq_true rfl, decide_eq_true (by omega : ((l.length : Nat) : Int) * (24 : Nat) ≤ 140737488355328)]
  exact l17_eq l (by omega) k 0 _ (Nat.zero_le _) (by omega) (by simp) (by simp)

theorem sz_eq (l : List (den pace)) (hl : l.length ≤ maxLen) : szF l 1048576 = some (if l.length ≤ 1048576 then 1048576 - (l.length : Int) else -1) := by
  unfold szF szP
  have hm : maxLen = 9223372036854775807 := rfl
  rw [hm] at hl
  rw [i64_in _ (by omega)]
  by_cases h : l.length ≤ 1048576
  · rw [decide_eq_false (by omega), if_pos h]; rfl
  · rw [decide_eq_true (by omega), if_neg h]; rfl

theorem law3_true (l : List (den pace)) (hl : l.length ≤ maxLen) : law3F (l.length + 1) l = some true := by
  unfold law3F law3P
  rw [sz_eq l hl, Option.bind_some]
  by_cases h : l.length ≤ 1048576
  · rw [if_pos h, decide_eq_false (by omega), cond_false, copy17 _ l (by omega) (by omega)]
    simp only [Option.bind_some]
    rw [ok16 _ l (by omega) (by omega), Option.bind_some, ok18 _ l (by omega) (by omega), Option.bind_some, eq19_self _ l (by omega) (by omega)]
    simp
  · rw [if_neg h]; rfl
end Go.Proofs.Ytkbaaipnjbcnlaa.Ev
namespace Go.Proofs.Ytkbaaipnjbcnlaa.Ev
open Go.Rf
theorem pure3 (l : List (den pace)) (hw : Wf (.sl pace) l) (_ : l.length * 24 ≤ 140737488351232) :
    ∃ k, (∀ l, Contract Try.prog 3 [.one (.l (.s .ro pace l))] ⟨law3F k l, fun r => (.one (bL r), [])⟩) ∧ law3F k l = some true :=
  ⟨l.length + 1, fun l => con3 _ l, law3_true l hw.1⟩
end Go.Proofs.Ytkbaaipnjbcnlaa.Ev
end
