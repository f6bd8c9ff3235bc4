/-
  The functions that a law reaches, as plain Lean functions, their contracts, and what they answer. (A part of the proofs of this seat.)
-/
import Derived.Test.YtkbaaipnjbcnlaaChecked
import Derived.Test.YtkbaaipnjbcnlaaRc
import Derived.KernelRfl

section
set_option linter.unusedVariables false
set_option linter.unusedSimpArgs false
/-
  test
-/
namespace Go.Proofs.Ytkbaaipnjbcnlaa.Gn
open Go.Rf
abbrev pace : Ty := (.pair (.int .i64) (.pair (.int .i64) (.int .i64)))
def tyT : List (Nat × TyI) := [(3, ⟨(.int .i64), false, 0⟩), (4, ⟨.bool, false, 0⟩), (22, ⟨(.sl pace), false, 24⟩), (25, ⟨(.sl pace), false, 24⟩), (33, ⟨pace, true, 0⟩), (61, ⟨pace, true, 0⟩)]
def fldT : FldT := [(33, [(0, 1, false), (1, 1, false), (2, 1, false)]), (61, [(0, 1, false), (1, 1, false), (2, 1, false)])]
def env (tab : Tab) (hint : Nat → Hint) (rm : Rf.Mode) (k : Nat) : Env :=
  { tab := tab, lend := (fun _ => []), ty := asc tyT, fld := fldOf fldT, pw := fun _ => none, cw := fun _ => [], hint := hint, eqt := fun _ => false, rm := rm, fuel := k }
theorem tyOk : AllT (TyOk Try.prog) tyT :=
  ⟨.ofInt (b := 8) (by kernel_rfl) (by kernel_rfl), .ofBool (b := 1) (by kernel_rfl) (by kernel_rfl), .ofSl (te := 61) (b := 24) (by kernel_rfl) (by kernel_rfl) (by kernel_rfl), .ofSl (te := 33) (b := 24) (by kernel_rfl) (by kernel_rfl) (by kernel_rfl), .ofAgg (b := 24) (by kernel_rfl) (by kernel_rfl), .ofAgg (b := 24) (by kernel_rfl) (by kernel_rfl), trivial⟩
theorem fldOk : AllF Try.prog fldT :=
  ⟨⟨⟨by kernel_rfl, by kernel_rfl⟩, ⟨by kernel_rfl, by kernel_rfl⟩, ⟨by kernel_rfl, by kernel_rfl⟩, trivial⟩, ⟨⟨by kernel_rfl, by kernel_rfl⟩, ⟨by kernel_rfl, by kernel_rfl⟩, ⟨by kernel_rfl, by kernel_rfl⟩, trivial⟩, trivial⟩
theorem mixed : Try.prog.follows .mixedOrders = true := by kernel_rfl
theorem bldOk : AllT (fun t i => i.agg = true → BldOk Try.prog t (fldOf fldT t)) tyT :=
  ⟨nofun, nofun, nofun, nofun, fun _ => bld_of (row := [(0, 1, false), (1, 1, false), (2, 1, false)]) rfl (by kernel_rfl) (by kernel_rfl), fun _ => bld_of (row := [(0, 1, false), (1, 1, false), (2, 1, false)]) rfl (by kernel_rfl) (by kernel_rfl), trivial⟩
theorem tysOk (tab : Tab) (hint : Nat → Hint) (rm : Rf.Mode) (k : Nat) : TysOk Try.prog (env tab hint rm k) :=
  ⟨fun t i h => tyOk.get h, fun s f z h => fldOk.get h, fun t i h => bldOk.get h, fun t i h => (by cases h)⟩
theorem envOk {tab : Tab} (h : TabFn Try.prog tab) (hint : Nat → Hint) (rm : Rf.Mode) (k : Nat) : EnvOk Try.prog (env tab hint rm k) := EnvOk.of (tysOk tab hint rm k) h
def noTab : Tab := fun _ _ => none
def noHint : Nat → Hint := fun _ => ⟨[], []⟩
/-! 15: loop.example/netstack/laws.szPaceS -/
abbrev F15_E (k : Nat) : Env := env noTab noHint .own k
def F15 (k : Nat) (a0 : List (den pace)) (a1 : Int) : Option (Int) :=
  cond (decide ((IntKind.i64.wrap (a1 - ((a0.length : Nat) : Int))) < 0))
    (some (-1))
    (some (IntKind.i64.wrap (a1 - ((a0.length : Nat) : Int))))
theorem F15_st {β : Type} (k : Nat) (a0 : List (den pace)) (a1 : Int) (K : A × List (List Leaf) → Option β) : evalF (F15_E k) Try.f15 [.one (.l (.s .ro pace a0)), .one (.l (.v (.int .i64 a1)))] K =
    cond (decide ((IntKind.i64.wrap (a1 - ((a0.length : Nat) : Int))) < 0))
      (K (.one (.v (.int .i64 (-1))), []))
      (K (.one (.v (.int .i64 (IntKind.i64.wrap (a1 - ((a0.length : Nat) : Int))))), [])) := by kernel_rfl
theorem F15_ev {β : Type} (k : Nat) (a0 : List (den pace)) (a1 : Int) (K : A × List (List Leaf) → Option β) : evalF (F15_E k) Try.f15 [.one (.l (.s .ro pace a0)), .one (.l (.v (.int .i64 a1)))] K = (F15 k a0 a1).bind fun r => K (.one (.v (.int .i64 r)), []) := by
  rw [F15_st, F15]
  simp only [bind_cond, Option.bind_assoc, Option.bind_some, Option.bind_none, Option.bind_fun_some]
theorem F15_con (k : Nat) (a0 : List (den pace)) (a1 : Int) : Contract Try.prog 15 [.one (.l (.s .ro pace a0)), .one (.l (.v (.int .i64 a1)))] ⟨F15 k a0 a1, fun r => (.one (.v (.int .i64 r)), [])⟩ :=
  con_of (envOk .none _ _ _) mixed Try.func15 rfl (F15_ev k a0 a1 some)
/-! 48: loop.example/netstack/laws.toPace -/
abbrev F48_E (k : Nat) : Env := env noTab noHint .own k
def F48 (k : Nat) (a0_0 : Int) (a0_1 : Int) (a0_2 : Int) : Option (Int × Int × Int) :=
  some (a0_0, a0_1, a0_2)
theorem F48_st {β : Type} (k : Nat) (a0_0 : Int) (a0_1 : Int) (a0_2 : Int) (K : A × List (List Leaf) → Option β) : evalF (F48_E k) Try.f48 [.agg [.l (.v (.int .i64 a0_0)), .l (.v (.int .i64 a0_1)), .l (.v (.int .i64 a0_2))]] K =
    K (.agg [.v (.int .i64 a0_0), .v (.int .i64 a0_1), .v (.int .i64 a0_2)], []) := by kernel_rfl
theorem F48_ev {β : Type} (k : Nat) (a0_0 : Int) (a0_1 : Int) (a0_2 : Int) (K : A × List (List Leaf) → Option β) : evalF (F48_E k) Try.f48 [.agg [.l (.v (.int .i64 a0_0)), .l (.v (.int .i64 a0_1)), .l (.v (.int .i64 a0_2))]] K = (F48 k a0_0 a0_1 a0_2).bind fun r => K (.agg [.v (.int .i64 r.1), .v (.int .i64 r.2.1), .v (.int .i64 r.2.2)], []) := by
  rw [F48_st, F48]
  simp only [bind_cond, Option.bind_assoc, Option.bind_some, Option.bind_none, Option.bind_fun_some]
theorem F48_con (k : Nat) (a0_0 : Int) (a0_1 : Int) (a0_2 : Int) : Contract Try.prog 48 [.agg [.l (.v (.int .i64 a0_0)), .l (.v (.int .i64 a0_1)), .l (.v (.int .i64 a0_2))]] ⟨F48 k a0_0 a0_1 a0_2, fun r => (.agg [.v (.int .i64 r.1), .v (.int .i64 r.2.1), .v (.int .i64 r.2.2)], [])⟩ :=
  con_of (envOk .none _ _ _) mixed Try.func48 rfl (F48_ev k a0_0 a0_1 a0_2 some)
/-! 17: loop.example/netstack/laws.toPaceS -/
def F17_h : Nat → Hint
  | 0 => ⟨[(0, .plain), (3, .plain), (4, .plain)], [(7000, .plain)]⟩
  | _ => ⟨[], []⟩
def F17_t (k : Nat) : Tab
  | 48, [.agg [.l (.v (.int .i64 a0_0)), .l (.v (.int .i64 a0_1)), .l (.v (.int .i64 a0_2))]] => some ⟨F48 k a0_0 a0_1 a0_2, fun r => (.agg [.v (.int .i64 r.1), .v (.int .i64 r.2.1), .v (.int .i64 r.2.2)], [])⟩
  | _, _ => none
abbrev F17_E (k : Nat) : Env := env (F17_t k) F17_h .own k
def F17_s0 (a0 : List (den pace)) (x4_0 : Int) (m7000_0 : List (den pace)) : St := ⟨[.one (.s .ro pace a0), .one .d, .one .d, .one (.a (.cell 7000) 0 0 none), .one (.v (.int .i64 x4_0)), .one .d, .one .d, .one .d, .one .d, .one .d, .one .d, .one .d, .one .d, .one .d, .one .d, .one .d, .one .d, .one .d, .one .d, .one .d, .one .d, .one .d, .one .d], [(7000, ⟨.s .own pace m7000_0, 0, 0⟩)]⟩
def F17_l0 (k : Nat) (a0 : List (den pace)) : Nat → Int → List (den pace) → Option (List (den pace))
  | 0, _, _ => none
  | n + 1, x4_0, m7000_0 =>
    cond (decide (x4_0 < ((a0.length : Nat) : Int)))
      (cond (decide (0 ≤ x4_0))
        (cond (decide (x4_0 < ((a0.length : Nat) : Int)))
          ((F48 k ((atI a0 x4_0).1) (((atI a0 x4_0).2).1) (((atI a0 x4_0).2).2)).bind fun b1 =>
            cond (decide (0 ≤ x4_0))
              (cond (decide (x4_0 < ((m7000_0.length : Nat) : Int)))
                (F17_l0 k a0 n (IntKind.i64.wrap (x4_0 + 1)) (m7000_0.set x4_0.toNat b1))
                (none))
              (none))
          (none))
        (none))
      (some m7000_0)
theorem F17_l0_rd {β : Type} (k n : Nat) (a0 : List (den pace)) (x4_0 : Int) (m7000_0 : List (den pace)) (K : A × List (List Leaf) → Option β) :
    loopG (F17_E k) Try.f17 [1, 1, 0, 1, 0] 0 (kontAt (F17_E k) [1, 1, 0, 1, 0] (bodyOf Try.f17) 0 (endC (F17_E k) Try.f17 [.one (.l (.s .ro pace a0))] K)) (n + 1) (F17_s0 a0 x4_0 m7000_0) =
    cond (decide (x4_0 < ((a0.length : Nat) : Int)))
      (cond (decide (0 ≤ x4_0))
        (cond (decide (x4_0 < ((a0.length : Nat) : Int)))
          ((F48 k ((atI a0 x4_0).1) (((atI a0 x4_0).2).1) (((atI a0 x4_0).2).2)).bind fun b1 =>
            cond (decide (0 ≤ x4_0))
              (cond (decide (x4_0 < ((m7000_0.length : Nat) : Int)))
                (loopG (F17_E k) Try.f17 [1, 1, 0, 1, 0] 0 (kontAt (F17_E k) [1, 1, 0, 1, 0] (bodyOf Try.f17) 0 (endC (F17_E k) Try.f17 [.one (.l (.s .ro pace a0))] K)) n (F17_s0 a0 (IntKind.i64.wrap (x4_0 + 1)) (m7000_0.set x4_0.toNat b1)))
                (none))
              (none))
          (none))
        (none))
      (K (.one (.s .own pace m7000_0), [])) := by kernel_rfl
theorem F17_l0_lp {β : Type} (k : Nat) (a0 : List (den pace)) (K : A × List (List Leaf) → Option β) (n : Nat) : ∀ (x4_0 : Int) (m7000_0 : List (den pace)), loopG (F17_E k) Try.f17 [1, 1, 0, 1, 0] 0 (kontAt (F17_E k) [1, 1, 0, 1, 0] (bodyOf Try.f17) 0 (endC (F17_E k) Try.f17 [.one (.l (.s .ro pace a0))] K)) n (F17_s0 a0 x4_0 m7000_0) =
    (F17_l0 k a0 n x4_0 m7000_0).bind fun r => K (.one (.s .own pace r), []) := by
  induction n with
  | zero => intros; rfl
  | succ n ih =>
    intros
    rw [F17_l0_rd, F17_l0]
    simp only [bind_cond, Option.bind_assoc, Option.bind_some, Option.bind_none, Option.bind_fun_some, ih]
def F17 (k : Nat) (a0 : List (den pace)) : Option (List (den pace)) :=
  cond ((decide (0 ≤ ((a0.length : Nat) : Int)) && decide (((a0.length : Nat) : Int) = ((a0.length : Nat) : Int)) && decide (((a0.length : Nat) : Int) * (24 : Nat) ≤ 140737488355328)))
    (F17_l0 k a0 k 0 (List.replicate (((a0.length : Nat) : Int).toNat) (dflt pace)))
    (none)
theorem F17_st {β : Type} (k : Nat) (a0 : List (den pace)) (K : A × List (List Leaf) → Option β) : evalF (F17_E k) Try.f17 [.one (.l (.s .ro pace a0))] K =
    cond ((decide (0 ≤ ((a0.length : Nat) : Int)) && decide (((a0.length : Nat) : Int) = ((a0.length : Nat) : Int)) && decide (((a0.length : Nat) : Int) * (24 : Nat) ≤ 140737488355328)))
      (loopG (F17_E k) Try.f17 [1, 1, 0, 1, 0] 0 (kontAt (F17_E k) [1, 1, 0, 1, 0] (bodyOf Try.f17) 0 (endC (F17_E k) Try.f17 [.one (.l (.s .ro pace a0))] K)) k (F17_s0 a0 0 (List.replicate (((a0.length : Nat) : Int).toNat) (dflt pace))))
      (none) := by kernel_rfl
theorem F17_ev {β : Type} (k : Nat) (a0 : List (den pace)) (K : A × List (List Leaf) → Option β) : evalF (F17_E k) Try.f17 [.one (.l (.s .ro pace a0))] K = (F17 k a0).bind fun r => K (.one (.s .own pace r), []) := by
  rw [F17_st, F17]
  simp only [bind_cond, Option.bind_assoc, Option.bind_some, Option.bind_none, Option.bind_fun_some, F17_l0_lp]
theorem F17_tOk (k : Nat) : TabFn Try.prog (F17_t k) := by
  constructor <;> intro f xs cr h <;> unfold F17_t at h <;> split at h <;> first | (simp only [Option.some.injEq] at h; subst h) | (simp at h; done)
  · exact F48_con _ _ _ _
  · exact .of (by kernel_rfl)
theorem F17_con (k : Nat) (a0 : List (den pace)) : Contract Try.prog 17 [.one (.l (.s .ro pace a0))] ⟨F17 k a0, fun r => (.one (.s .own pace r), [])⟩ :=
  con_of (envOk (F17_tOk k) _ _ _) mixed Try.func17 rfl (F17_ev k a0 some)
/-! 47: loop.example/netstack/spec.l1In -/
abbrev F47_E (k : Nat) : Env := env noTab noHint .own k
def F47 (k : Nat) (a0 : Int) (a1 : Int) (a2 : Int) : Option (Bool) :=
  cond (decide (a0 ≥ a1))
    (some (decide (a0 ≤ a2)))
    (some false)
theorem F47_st {β : Type} (k : Nat) (a0 : Int) (a1 : Int) (a2 : Int) (K : A × List (List Leaf) → Option β) : evalF (F47_E k) Try.f47 [.one (.l (.v (.int .i64 a0))), .one (.l (.v (.int .i64 a1))), .one (.l (.v (.int .i64 a2)))] K =
    cond (decide (a0 ≥ a1))
      (K (.one (.v (.bool (decide (a0 ≤ a2)))), []))
      (K (.one (.v (.bool false)), [])) := by kernel_rfl
theorem F47_ev {β : Type} (k : Nat) (a0 : Int) (a1 : Int) (a2 : Int) (K : A × List (List Leaf) → Option β) : evalF (F47_E k) Try.f47 [.one (.l (.v (.int .i64 a0))), .one (.l (.v (.int .i64 a1))), .one (.l (.v (.int .i64 a2)))] K = (F47 k a0 a1 a2).bind fun r => K (.one (.v (.bool r)), []) := by
  rw [F47_st, F47]
  simp only [bind_cond, Option.bind_assoc, Option.bind_some, Option.bind_none, Option.bind_fun_some]
theorem F47_con (k : Nat) (a0 : Int) (a1 : Int) (a2 : Int) : Contract Try.prog 47 [.one (.l (.v (.int .i64 a0))), .one (.l (.v (.int .i64 a1))), .one (.l (.v (.int .i64 a2)))] ⟨F47 k a0 a1 a2, fun r => (.one (.v (.bool r)), [])⟩ :=
  con_of (envOk .none _ _ _) mixed Try.func47 rfl (F47_ev k a0 a1 a2 some)
/-! 46: loop.example/netstack/spec.PaceOk -/
def F46_t (k : Nat) : Tab
  | 47, [.one (.l (.v (.int .i64 a0))), .one (.l (.v (.int .i64 a1))), .one (.l (.v (.int .i64 a2)))] => some ⟨F47 k a0 a1 a2, fun r => (.one (.v (.bool r)), [])⟩
  | _, _ => none
abbrev F46_E (k : Nat) : Env := env (F46_t k) noHint .own k
def F46 (k : Nat) (a0_0 : Int) (a0_1 : Int) (a0_2 : Int) : Option (Bool) :=
  (F47 k a0_0 1 64).bind fun b1 =>
    cond (b1)
      ((F47 k a0_1 2 64).bind fun b2 =>
        cond (b2)
          ((F47 k a0_2 0 (IntKind.i64.wrap (a0_0 - 1))).bind fun b3 =>
            some b3)
          (some false))
      (some false)
theorem F46_st {β : Type} (k : Nat) (a0_0 : Int) (a0_1 : Int) (a0_2 : Int) (K : A × List (List Leaf) → Option β) : evalF (F46_E k) Try.f46 [.agg [.l (.v (.int .i64 a0_0)), .l (.v (.int .i64 a0_1)), .l (.v (.int .i64 a0_2))]] K =
    (F47 k a0_0 1 64).bind fun b1 =>
      cond (b1)
        ((F47 k a0_1 2 64).bind fun b2 =>
          cond (b2)
            ((F47 k a0_2 0 (IntKind.i64.wrap (a0_0 - 1))).bind fun b3 =>
              K (.one (.v (.bool b3)), []))
            (K (.one (.v (.bool false)), [])))
        (K (.one (.v (.bool false)), [])) := by kernel_rfl
theorem F46_ev {β : Type} (k : Nat) (a0_0 : Int) (a0_1 : Int) (a0_2 : Int) (K : A × List (List Leaf) → Option β) : evalF (F46_E k) Try.f46 [.agg [.l (.v (.int .i64 a0_0)), .l (.v (.int .i64 a0_1)), .l (.v (.int .i64 a0_2))]] K = (F46 k a0_0 a0_1 a0_2).bind fun r => K (.one (.v (.bool r)), []) := by
  rw [F46_st, F46]
  simp only [bind_cond, Option.bind_assoc, Option.bind_some, Option.bind_none, Option.bind_fun_some]
theorem F46_tOk (k : Nat) : TabFn Try.prog (F46_t k) := by
  constructor <;> intro f xs cr h <;> unfold F46_t at h <;> split at h <;> first | (simp only [Option.some.injEq] at h; subst h) | (simp at h; done)
  · exact F47_con _ _ _ _
  · exact .of (by kernel_rfl)
theorem F46_con (k : Nat) (a0_0 : Int) (a0_1 : Int) (a0_2 : Int) : Contract Try.prog 46 [.agg [.l (.v (.int .i64 a0_0)), .l (.v (.int .i64 a0_1)), .l (.v (.int .i64 a0_2))]] ⟨F46 k a0_0 a0_1 a0_2, fun r => (.one (.v (.bool r)), [])⟩ :=
  con_of (envOk (F46_tOk k) _ _ _) mixed Try.func46 rfl (F46_ev k a0_0 a0_1 a0_2 some)
/-! 16: loop.example/netstack/spec.SharedOk -/
def F16_h : Nat → Hint
  | 0 => ⟨[(0, .plain), (3, .plain)], []⟩
  | _ => ⟨[], []⟩
def F16_t (k : Nat) : Tab
  | 46, [.agg [.l (.v (.int .i64 a0_0)), .l (.v (.int .i64 a0_1)), .l (.v (.int .i64 a0_2))]] => some ⟨F46 k a0_0 a0_1 a0_2, fun r => (.one (.v (.bool r)), [])⟩
  | 47, [.one (.l (.v (.int .i64 a0))), .one (.l (.v (.int .i64 a1))), .one (.l (.v (.int .i64 a2)))] => some ⟨F47 k a0 a1 a2, fun r => (.one (.v (.bool r)), [])⟩
  | _, _ => none
abbrev F16_E (k : Nat) : Env := env (F16_t k) F16_h .own k
def F16_s0 (a0 : List (den pace)) (x3_0 : Int) : St := ⟨[.one (.s .ro pace a0), .one .d, .one .d, .one (.v (.int .i64 x3_0)), .one .d, .one .d, .one .d, .one .d, .one .d, .one .d, .one .d, .one .d, .one .d, .one .d, .one .d, .one .d, .one .d, .one .d, .one .d], []⟩
def F16_l0 (k : Nat) (a0 : List (den pace)) : Nat → Int → Option (Bool)
  | 0, _ => none
  | n + 1, x3_0 =>
    cond (decide (x3_0 < ((a0.length : Nat) : Int)))
      (cond (decide (0 ≤ x3_0))
        (cond (decide (x3_0 < ((a0.length : Nat) : Int)))
          ((F46 k ((atI a0 x3_0).1) (((atI a0 x3_0).2).1) (((atI a0 x3_0).2).2)).bind fun b1 =>
            cond ((!b1))
              (some false)
              (F16_l0 k a0 n (IntKind.i64.wrap (x3_0 + 1))))
          (none))
        (none))
      ((F47 k ((a0.length : Nat) : Int) 1 5).bind fun b2 =>
        some b2)
theorem F16_l0_rd {β : Type} (k n : Nat) (a0 : List (den pace)) (x3_0 : Int) (K : A × List (List Leaf) → Option β) :
    loopG (F16_E k) Try.f16 [1, 0, 1, 0] 0 (kontAt (F16_E k) [1, 0, 1, 0] (bodyOf Try.f16) 0 (endC (F16_E k) Try.f16 [.one (.l (.s .ro pace a0))] K)) (n + 1) (F16_s0 a0 x3_0) =
    cond (decide (x3_0 < ((a0.length : Nat) : Int)))
      (cond (decide (0 ≤ x3_0))
        (cond (decide (x3_0 < ((a0.length : Nat) : Int)))
          ((F46 k ((atI a0 x3_0).1) (((atI a0 x3_0).2).1) (((atI a0 x3_0).2).2)).bind fun b1 =>
            cond ((!b1))
              (K (.one (.v (.bool false)), []))
              (loopG (F16_E k) Try.f16 [1, 0, 1, 0] 0 (kontAt (F16_E k) [1, 0, 1, 0] (bodyOf Try.f16) 0 (endC (F16_E k) Try.f16 [.one (.l (.s .ro pace a0))] K)) n (F16_s0 a0 (IntKind.i64.wrap (x3_0 + 1)))))
          (none))
        (none))
      ((F47 k ((a0.length : Nat) : Int) 1 5).bind fun b2 =>
        K (.one (.v (.bool b2)), [])) := by kernel_rfl
theorem F16_l0_lp {β : Type} (k : Nat) (a0 : List (den pace)) (K : A × List (List Leaf) → Option β) (n : Nat) : ∀ (x3_0 : Int), loopG (F16_E k) Try.f16 [1, 0, 1, 0] 0 (kontAt (F16_E k) [1, 0, 1, 0] (bodyOf Try.f16) 0 (endC (F16_E k) Try.f16 [.one (.l (.s .ro pace a0))] K)) n (F16_s0 a0 x3_0) =
    (F16_l0 k a0 n x3_0).bind fun r => K (.one (.v (.bool r)), []) := by
  induction n with
  | zero => intros; rfl
  | succ n ih =>
    intros
    rw [F16_l0_rd, F16_l0]
    simp only [bind_cond, Option.bind_assoc, Option.bind_some, Option.bind_none, Option.bind_fun_some, ih]
def F16 (k : Nat) (a0 : List (den pace)) : Option (Bool) :=
  F16_l0 k a0 k 0
theorem F16_st {β : Type} (k : Nat) (a0 : List (den pace)) (K : A × List (List Leaf) → Option β) : evalF (F16_E k) Try.f16 [.one (.l (.s .ro pace a0))] K =
    loopG (F16_E k) Try.f16 [1, 0, 1, 0] 0 (kontAt (F16_E k) [1, 0, 1, 0] (bodyOf Try.f16) 0 (endC (F16_E k) Try.f16 [.one (.l (.s .ro pace a0))] K)) k (F16_s0 a0 0) := by kernel_rfl
theorem F16_ev {β : Type} (k : Nat) (a0 : List (den pace)) (K : A × List (List Leaf) → Option β) : evalF (F16_E k) Try.f16 [.one (.l (.s .ro pace a0))] K = (F16 k a0).bind fun r => K (.one (.v (.bool r)), []) := by
  rw [F16_st, F16]
  simp only [bind_cond, Option.bind_assoc, Option.bind_some, Option.bind_none, Option.bind_fun_some, F16_l0_lp]
theorem F16_tOk (k : Nat) : TabFn Try.prog (F16_t k) := by
  constructor <;> intro f xs cr h <;> unfold F16_t at h <;> split at h <;> first | (simp only [Option.some.injEq] at h; subst h) | (simp at h; done)
  · exact F46_con _ _ _ _
  · exact F47_con _ _ _ _
  · exact .of (by kernel_rfl)
  · exact .of (by kernel_rfl)
theorem F16_con (k : Nat) (a0 : List (den pace)) : Contract Try.prog 16 [.one (.l (.s .ro pace a0))] ⟨F16 k a0, fun r => (.one (.v (.bool r)), [])⟩ :=
  con_of (envOk (F16_tOk k) _ _ _) mixed Try.func16 rfl (F16_ev k a0 some)
/-! 49: loop.example/netstack/impl.in -/
abbrev F49_E (k : Nat) : Env := env noTab noHint .own k
def F49 (k : Nat) (a0 : Int) (a1 : Int) (a2 : Int) : Option (Bool) :=
  cond (decide (a0 ≥ a1))
    (some (decide (a0 ≤ a2)))
    (some false)
theorem F49_st {β : Type} (k : Nat) (a0 : Int) (a1 : Int) (a2 : Int) (K : A × List (List Leaf) → Option β) : evalF (F49_E k) Try.f49 [.one (.l (.v (.int .i64 a0))), .one (.l (.v (.int .i64 a1))), .one (.l (.v (.int .i64 a2)))] K =
    cond (decide (a0 ≥ a1))
      (K (.one (.v (.bool (decide (a0 ≤ a2)))), []))
      (K (.one (.v (.bool false)), [])) := by kernel_rfl
theorem F49_ev {β : Type} (k : Nat) (a0 : Int) (a1 : Int) (a2 : Int) (K : A × List (List Leaf) → Option β) : evalF (F49_E k) Try.f49 [.one (.l (.v (.int .i64 a0))), .one (.l (.v (.int .i64 a1))), .one (.l (.v (.int .i64 a2)))] K = (F49 k a0 a1 a2).bind fun r => K (.one (.v (.bool r)), []) := by
  rw [F49_st, F49]
  simp only [bind_cond, Option.bind_assoc, Option.bind_some, Option.bind_none, Option.bind_fun_some]
theorem F49_con (k : Nat) (a0 : Int) (a1 : Int) (a2 : Int) : Contract Try.prog 49 [.one (.l (.v (.int .i64 a0))), .one (.l (.v (.int .i64 a1))), .one (.l (.v (.int .i64 a2)))] ⟨F49 k a0 a1 a2, fun r => (.one (.v (.bool r)), [])⟩ :=
  con_of (envOk .none _ _ _) mixed Try.func49 rfl (F49_ev k a0 a1 a2 some)
/-! 52: loop.example/netstack/impl.PaceOk -/
def F52_t (k : Nat) : Tab
  | 49, [.one (.l (.v (.int .i64 a0))), .one (.l (.v (.int .i64 a1))), .one (.l (.v (.int .i64 a2)))] => some ⟨F49 k a0 a1 a2, fun r => (.one (.v (.bool r)), [])⟩
  | _, _ => none
abbrev F52_E (k : Nat) : Env := env (F52_t k) noHint .own k
def F52 (k : Nat) (a0_0 : Int) (a0_1 : Int) (a0_2 : Int) : Option (Bool) :=
  (F49 k a0_0 1 64).bind fun b1 =>
    cond (b1)
      ((F49 k a0_1 2 64).bind fun b2 =>
        cond (b2)
          ((F49 k a0_2 0 (IntKind.i64.wrap (a0_0 - 1))).bind fun b3 =>
            some b3)
          (some false))
      (some false)
theorem F52_st {β : Type} (k : Nat) (a0_0 : Int) (a0_1 : Int) (a0_2 : Int) (K : A × List (List Leaf) → Option β) : evalF (F52_E k) Try.f52 [.agg [.l (.v (.int .i64 a0_0)), .l (.v (.int .i64 a0_1)), .l (.v (.int .i64 a0_2))]] K =
    (F49 k a0_0 1 64).bind fun b1 =>
      cond (b1)
        ((F49 k a0_1 2 64).bind fun b2 =>
          cond (b2)
            ((F49 k a0_2 0 (IntKind.i64.wrap (a0_0 - 1))).bind fun b3 =>
              K (.one (.v (.bool b3)), []))
            (K (.one (.v (.bool false)), [])))
        (K (.one (.v (.bool false)), [])) := by kernel_rfl
theorem F52_ev {β : Type} (k : Nat) (a0_0 : Int) (a0_1 : Int) (a0_2 : Int) (K : A × List (List Leaf) → Option β) : evalF (F52_E k) Try.f52 [.agg [.l (.v (.int .i64 a0_0)), .l (.v (.int .i64 a0_1)), .l (.v (.int .i64 a0_2))]] K = (F52 k a0_0 a0_1 a0_2).bind fun r => K (.one (.v (.bool r)), []) := by
  rw [F52_st, F52]
  simp only [bind_cond, Option.bind_assoc, Option.bind_some, Option.bind_none, Option.bind_fun_some]
theorem F52_tOk (k : Nat) : TabFn Try.prog (F52_t k) := by
  constructor <;> intro f xs cr h <;> unfold F52_t at h <;> split at h <;> first | (simp only [Option.some.injEq] at h; subst h) | (simp at h; done)
  · exact F49_con _ _ _ _
  · exact .of (by kernel_rfl)
theorem F52_con (k : Nat) (a0_0 : Int) (a0_1 : Int) (a0_2 : Int) : Contract Try.prog 52 [.agg [.l (.v (.int .i64 a0_0)), .l (.v (.int .i64 a0_1)), .l (.v (.int .i64 a0_2))]] ⟨F52 k a0_0 a0_1 a0_2, fun r => (.one (.v (.bool r)), [])⟩ :=
  con_of (envOk (F52_tOk k) _ _ _) mixed Try.func52 rfl (F52_ev k a0_0 a0_1 a0_2 some)
/-! 51: loop.example/netstack/impl.SharedOk$1 -/
def F51_t (k : Nat) : Tab
  | 52, [.agg [.l (.v (.int .i64 a0_0)), .l (.v (.int .i64 a0_1)), .l (.v (.int .i64 a0_2))]] => some ⟨F52 k a0_0 a0_1 a0_2, fun r => (.one (.v (.bool r)), [])⟩
  | _, _ => none
abbrev F51_E (k : Nat) : Env := env (F51_t k) noHint .own k
def F51 (k : Nat) (a0_0 : Int) (a0_1 : Int) (a0_2 : Int) : Option (Bool) :=
  (F52 k a0_0 a0_1 a0_2).bind fun b1 =>
    some (!b1)
theorem F51_st {β : Type} (k : Nat) (a0_0 : Int) (a0_1 : Int) (a0_2 : Int) (K : A × List (List Leaf) → Option β) : evalF (F51_E k) Try.f51 [.agg [.l (.v (.int .i64 a0_0)), .l (.v (.int .i64 a0_1)), .l (.v (.int .i64 a0_2))]] K =
    (F52 k a0_0 a0_1 a0_2).bind fun b1 =>
      K (.one (.v (.bool (!b1))), []) := by kernel_rfl
theorem F51_ev {β : Type} (k : Nat) (a0_0 : Int) (a0_1 : Int) (a0_2 : Int) (K : A × List (List Leaf) → Option β) : evalF (F51_E k) Try.f51 [.agg [.l (.v (.int .i64 a0_0)), .l (.v (.int .i64 a0_1)), .l (.v (.int .i64 a0_2))]] K = (F51 k a0_0 a0_1 a0_2).bind fun r => K (.one (.v (.bool r)), []) := by
  rw [F51_st, F51]
  simp only [bind_cond, Option.bind_assoc, Option.bind_some, Option.bind_none, Option.bind_fun_some]
theorem F51_tOk (k : Nat) : TabFn Try.prog (F51_t k) := by
  constructor <;> intro f xs cr h <;> unfold F51_t at h <;> split at h <;> first | (simp only [Option.some.injEq] at h; subst h) | (simp at h; done)
  · exact F52_con _ _ _ _
  · exact .of (by kernel_rfl)
theorem F51_con (k : Nat) (a0_0 : Int) (a0_1 : Int) (a0_2 : Int) : Contract Try.prog 51 [.agg [.l (.v (.int .i64 a0_0)), .l (.v (.int .i64 a0_1)), .l (.v (.int .i64 a0_2))]] ⟨F51 k a0_0 a0_1 a0_2, fun r => (.one (.v (.bool r)), [])⟩ :=
  con_of (envOk (F51_tOk k) _ _ _) mixed Try.func51 rfl (F51_ev k a0_0 a0_1 a0_2 some)
/-! 80: slices.IndexFunc[[]loop.example/netstack/impl.Pace,loop.example/netstack/impl.Pace] -/
def F80_h : Nat → Hint
  | 0 => ⟨[(0, .plain), (1, .plain), (7, .plain), (8, .plain)], []⟩
  | _ => ⟨[], []⟩
def F80_t (k : Nat) : Tab
  | 51, [.agg [.l (.v (.int .i64 a0_0)), .l (.v (.int .i64 a0_1)), .l (.v (.int .i64 a0_2))]] => some ⟨F51 k a0_0 a0_1 a0_2, fun r => (.one (.v (.bool r)), [])⟩
  | _, _ => none
abbrev F80_E (k : Nat) : Env := env (F80_t k) F80_h .own k
def F80_s0 (a0 : List (den pace)) (x8_0 : Int) : St := ⟨[.one (.s .ro pace a0), .one (.fn 51 []), .one .d, .one .d, .one .d, .one .d, .one .d, .one (.v (.int .i64 ((a0.length : Nat) : Int))), .one (.v (.int .i64 x8_0)), .one .d, .one .d, .one .d, .one .d, .one .d, .one .d, .one .d, .one .d, .one .d, .one .d], []⟩
def F80_l0 (k : Nat) (a0 : List (den pace)) : Nat → Int → Option (Int)
  | 0, _ => none
  | n + 1, x8_0 =>
    cond (decide (x8_0 < ((a0.length : Nat) : Int)))
      (cond (decide (0 ≤ x8_0))
        (cond (decide (x8_0 < ((a0.length : Nat) : Int)))
          ((F51 k ((atI a0 x8_0).1) (((atI a0 x8_0).2).1) (((atI a0 x8_0).2).2)).bind fun b1 =>
            cond (b1)
              (some x8_0)
              (F80_l0 k a0 n (IntKind.i64.wrap (x8_0 + 1))))
          (none))
        (none))
      (some (-1))
theorem F80_l0_rd {β : Type} (k n : Nat) (a0 : List (den pace)) (x8_0 : Int) (K : A × List (List Leaf) → Option β) :
    loopG (F80_E k) Try.f80 [1, 0, 1, 0] 0 (kontAt (F80_E k) [1, 0, 1, 0] (bodyOf Try.f80) 0 (endC (F80_E k) Try.f80 [.one (.l (.s .ro pace a0)), .one (.fn 51 [])] K)) (n + 1) (F80_s0 a0 x8_0) =
    cond (decide (x8_0 < ((a0.length : Nat) : Int)))
      (cond (decide (0 ≤ x8_0))
        (cond (decide (x8_0 < ((a0.length : Nat) : Int)))
          ((F51 k ((atI a0 x8_0).1) (((atI a0 x8_0).2).1) (((atI a0 x8_0).2).2)).bind fun b1 =>
            cond (b1)
              (K (.one (.v (.int .i64 x8_0)), []))
              (loopG (F80_E k) Try.f80 [1, 0, 1, 0] 0 (kontAt (F80_E k) [1, 0, 1, 0] (bodyOf Try.f80) 0 (endC (F80_E k) Try.f80 [.one (.l (.s .ro pace a0)), .one (.fn 51 [])] K)) n (F80_s0 a0 (IntKind.i64.wrap (x8_0 + 1)))))
          (none))
        (none))
      (K (.one (.v (.int .i64 (-1))), [])) := by kernel_rfl
theorem F80_l0_lp {β : Type} (k : Nat) (a0 : List (den pace)) (K : A × List (List Leaf) → Option β) (n : Nat) : ∀ (x8_0 : Int), loopG (F80_E k) Try.f80 [1, 0, 1, 0] 0 (kontAt (F80_E k) [1, 0, 1, 0] (bodyOf Try.f80) 0 (endC (F80_E k) Try.f80 [.one (.l (.s .ro pace a0)), .one (.fn 51 [])] K)) n (F80_s0 a0 x8_0) =
    (F80_l0 k a0 n x8_0).bind fun r => K (.one (.v (.int .i64 r)), []) := by
  induction n with
  | zero => intros; rfl
  | succ n ih =>
    intros
    rw [F80_l0_rd, F80_l0]
    simp only [bind_cond, Option.bind_assoc, Option.bind_some, Option.bind_none, Option.bind_fun_some, ih]
def F80 (k : Nat) (a0 : List (den pace)) : Option (Int) :=
  F80_l0 k a0 k 0
theorem F80_st {β : Type} (k : Nat) (a0 : List (den pace)) (K : A × List (List Leaf) → Option β) : evalF (F80_E k) Try.f80 [.one (.l (.s .ro pace a0)), .one (.fn 51 [])] K =
    loopG (F80_E k) Try.f80 [1, 0, 1, 0] 0 (kontAt (F80_E k) [1, 0, 1, 0] (bodyOf Try.f80) 0 (endC (F80_E k) Try.f80 [.one (.l (.s .ro pace a0)), .one (.fn 51 [])] K)) k (F80_s0 a0 0) := by kernel_rfl
theorem F80_ev {β : Type} (k : Nat) (a0 : List (den pace)) (K : A × List (List Leaf) → Option β) : evalF (F80_E k) Try.f80 [.one (.l (.s .ro pace a0)), .one (.fn 51 [])] K = (F80 k a0).bind fun r => K (.one (.v (.int .i64 r)), []) := by
  rw [F80_st, F80]
  simp only [bind_cond, Option.bind_assoc, Option.bind_some, Option.bind_none, Option.bind_fun_some, F80_l0_lp]
theorem F80_tOk (k : Nat) : TabFn Try.prog (F80_t k) := by
  constructor <;> intro f xs cr h <;> unfold F80_t at h <;> split at h <;> first | (simp only [Option.some.injEq] at h; subst h) | (simp at h; done)
  · exact F51_con _ _ _ _
  · exact .of (by kernel_rfl)
theorem F80_con (k : Nat) (a0 : List (den pace)) : Contract Try.prog 80 [.one (.l (.s .ro pace a0)), .one (.fn 51 [])] ⟨F80 k a0, fun r => (.one (.v (.int .i64 r)), [])⟩ :=
  con_of (envOk (F80_tOk k) _ _ _) mixed Try.func80 rfl (F80_ev k a0 some)
/-! 50: slices.ContainsFunc[[]loop.example/netstack/impl.Pace,loop.example/netstack/impl.Pace] -/
def F50_t (k : Nat) : Tab
  | 80, [.one (.l (.s .ro (.pair (.int .i64) (.pair (.int .i64) (.int .i64))) a0)), .one (.fn 51 [])] => some ⟨F80 k a0, fun r => (.one (.v (.int .i64 r)), [])⟩
  | _, _ => none
abbrev F50_E (k : Nat) : Env := env (F50_t k) noHint .own k
def F50 (k : Nat) (a0 : List (den pace)) : Option (Bool) :=
  (F80 k a0).bind fun b1 =>
    some (decide (b1 ≥ 0))
theorem F50_st {β : Type} (k : Nat) (a0 : List (den pace)) (K : A × List (List Leaf) → Option β) : evalF (F50_E k) Try.f50 [.one (.l (.s .ro pace a0)), .one (.fn 51 [])] K =
    (F80 k a0).bind fun b1 =>
      K (.one (.v (.bool (decide (b1 ≥ 0)))), []) := by kernel_rfl
theorem F50_ev {β : Type} (k : Nat) (a0 : List (den pace)) (K : A × List (List Leaf) → Option β) : evalF (F50_E k) Try.f50 [.one (.l (.s .ro pace a0)), .one (.fn 51 [])] K = (F50 k a0).bind fun r => K (.one (.v (.bool r)), []) := by
  rw [F50_st, F50]
  simp only [bind_cond, Option.bind_assoc, Option.bind_some, Option.bind_none, Option.bind_fun_some]
theorem F50_tOk (k : Nat) : TabFn Try.prog (F50_t k) := by
  constructor <;> intro f xs cr h <;> unfold F50_t at h <;> split at h <;> first | (simp only [Option.some.injEq] at h; subst h) | (simp at h; done)
  · exact F80_con _ _
  · exact .of (by kernel_rfl)
theorem F50_con (k : Nat) (a0 : List (den pace)) : Contract Try.prog 50 [.one (.l (.s .ro pace a0)), .one (.fn 51 [])] ⟨F50 k a0, fun r => (.one (.v (.bool r)), [])⟩ :=
  con_of (envOk (F50_tOk k) _ _ _) mixed Try.func50 rfl (F50_ev k a0 some)
/-! 18: loop.example/netstack/impl.SharedOk -/
def F18_t (k : Nat) : Tab
  | 49, [.one (.l (.v (.int .i64 a0))), .one (.l (.v (.int .i64 a1))), .one (.l (.v (.int .i64 a2)))] => some ⟨F49 k a0 a1 a2, fun r => (.one (.v (.bool r)), [])⟩
  | 50, [.one (.l (.s .ro (.pair (.int .i64) (.pair (.int .i64) (.int .i64))) a0)), .one (.fn 51 [])] => some ⟨F50 k a0, fun r => (.one (.v (.bool r)), [])⟩
  | _, _ => none
abbrev F18_E (k : Nat) : Env := env (F18_t k) noHint .own k
def F18 (k : Nat) (a0 : List (den pace)) : Option (Bool) :=
  (F49 k ((a0.length : Nat) : Int) 1 5).bind fun b1 =>
    cond (b1)
      ((F50 k a0).bind fun b2 =>
        some (!b2))
      (some false)
theorem F18_st {β : Type} (k : Nat) (a0 : List (den pace)) (K : A × List (List Leaf) → Option β) : evalF (F18_E k) Try.f18 [.one (.l (.s .ro pace a0))] K =
    (F49 k ((a0.length : Nat) : Int) 1 5).bind fun b1 =>
      cond (b1)
        ((F50 k a0).bind fun b2 =>
          K (.one (.v (.bool (!b2))), []))
        (K (.one (.v (.bool false)), [])) := by kernel_rfl
theorem F18_ev {β : Type} (k : Nat) (a0 : List (den pace)) (K : A × List (List Leaf) → Option β) : evalF (F18_E k) Try.f18 [.one (.l (.s .ro pace a0))] K = (F18 k a0).bind fun r => K (.one (.v (.bool r)), []) := by
  rw [F18_st, F18]
  simp only [bind_cond, Option.bind_assoc, Option.bind_some, Option.bind_none, Option.bind_fun_some]
theorem F18_tOk (k : Nat) : TabFn Try.prog (F18_t k) := by
  constructor <;> intro f xs cr h <;> unfold F18_t at h <;> split at h <;> first | (simp only [Option.some.injEq] at h; subst h) | (simp at h; done)
  · exact F49_con _ _ _ _
  · exact F50_con _ _
  · exact .of (by kernel_rfl)
  · exact .of (by kernel_rfl)
theorem F18_con (k : Nat) (a0 : List (den pace)) : Contract Try.prog 18 [.one (.l (.s .ro pace a0))] ⟨F18 k a0, fun r => (.one (.v (.bool r)), [])⟩ :=
  con_of (envOk (F18_tOk k) _ _ _) mixed Try.func18 rfl (F18_ev k a0 some)
/-! 53: loop.example/netstack/laws.eqPace -/
abbrev F53_E (k : Nat) : Env := env noTab noHint .own k
def F53 (k : Nat) (a0_0 : Int) (a0_1 : Int) (a0_2 : Int) (a1_0 : Int) (a1_1 : Int) (a1_2 : Int) : Option (Bool) :=
  cond ((a0_0 != a1_0))
    (some false)
    (cond ((a0_1 != a1_1))
      (some false)
      (cond ((a0_2 != a1_2))
        (some false)
        (some true)))
theorem F53_st {β : Type} (k : Nat) (a0_0 : Int) (a0_1 : Int) (a0_2 : Int) (a1_0 : Int) (a1_1 : Int) (a1_2 : Int) (K : A × List (List Leaf) → Option β) : evalF (F53_E k) Try.f53 [.agg [.l (.v (.int .i64 a0_0)), .l (.v (.int .i64 a0_1)), .l (.v (.int .i64 a0_2))], .agg [.l (.v (.int .i64 a1_0)), .l (.v (.int .i64 a1_1)), .l (.v (.int .i64 a1_2))]] K =
    cond ((a0_0 != a1_0))
      (K (.one (.v (.bool false)), []))
      (cond ((a0_1 != a1_1))
        (K (.one (.v (.bool false)), []))
        (cond ((a0_2 != a1_2))
          (K (.one (.v (.bool false)), []))
          (K (.one (.v (.bool true)), [])))) := by kernel_rfl
theorem F53_ev {β : Type} (k : Nat) (a0_0 : Int) (a0_1 : Int) (a0_2 : Int) (a1_0 : Int) (a1_1 : Int) (a1_2 : Int) (K : A × List (List Leaf) → Option β) : evalF (F53_E k) Try.f53 [.agg [.l (.v (.int .i64 a0_0)), .l (.v (.int .i64 a0_1)), .l (.v (.int .i64 a0_2))], .agg [.l (.v (.int .i64 a1_0)), .l (.v (.int .i64 a1_1)), .l (.v (.int .i64 a1_2))]] K = (F53 k a0_0 a0_1 a0_2 a1_0 a1_1 a1_2).bind fun r => K (.one (.v (.bool r)), []) := by
  rw [F53_st, F53]
  simp only [bind_cond, Option.bind_assoc, Option.bind_some, Option.bind_none, Option.bind_fun_some]
theorem F53_con (k : Nat) (a0_0 : Int) (a0_1 : Int) (a0_2 : Int) (a1_0 : Int) (a1_1 : Int) (a1_2 : Int) : Contract Try.prog 53 [.agg [.l (.v (.int .i64 a0_0)), .l (.v (.int .i64 a0_1)), .l (.v (.int .i64 a0_2))], .agg [.l (.v (.int .i64 a1_0)), .l (.v (.int .i64 a1_1)), .l (.v (.int .i64 a1_2))]] ⟨F53 k a0_0 a0_1 a0_2 a1_0 a1_1 a1_2, fun r => (.one (.v (.bool r)), [])⟩ :=
  con_of (envOk .none _ _ _) mixed Try.func53 rfl (F53_ev k a0_0 a0_1 a0_2 a1_0 a1_1 a1_2 some)
/-! 19: loop.example/netstack/laws.eqPaceS -/
def F19_h : Nat → Hint
  | 0 => ⟨[(0, .plain), (1, .plain), (5, .plain)], []⟩
  | _ => ⟨[], []⟩
def F19_t (k : Nat) : Tab
  | 53, [.agg [.l (.v (.int .i64 a0_0)), .l (.v (.int .i64 a0_1)), .l (.v (.int .i64 a0_2))], .agg [.l (.v (.int .i64 a1_0)), .l (.v (.int .i64 a1_1)), .l (.v (.int .i64 a1_2))]] => some ⟨F53 k a0_0 a0_1 a0_2 a1_0 a1_1 a1_2, fun r => (.one (.v (.bool r)), [])⟩
  | _, _ => none
abbrev F19_E (k : Nat) : Env := env (F19_t k) F19_h .own k
def F19_s0 (a0 : List (den pace)) (a1 : List (den pace)) (x5_0 : Int) : St := ⟨[.one (.s .ro pace a0), .one (.s .ro pace a1), .one .d, .one .d, .one .d, .one (.v (.int .i64 x5_0)), .one .d, .one .d, .one .d, .one .d, .one .d, .one .d, .one .d, .one .d, .one .d, .one .d, .one .d, .one .d, .one .d, .one .d, .one .d, .one .d, .one .d, .one .d, .one .d, .one .d, .one .d], []⟩
def F19_l0 (k : Nat) (a0 : List (den pace)) (a1 : List (den pace)) : Nat → Int → Option (Bool)
  | 0, _ => none
  | n + 1, x5_0 =>
    cond (decide (x5_0 < ((a0.length : Nat) : Int)))
      (cond (decide (0 ≤ x5_0))
        (cond (decide (x5_0 < ((a0.length : Nat) : Int)))
          (cond (decide (0 ≤ x5_0))
            (cond (decide (x5_0 < ((a1.length : Nat) : Int)))
              ((F53 k ((atI a0 x5_0).1) (((atI a0 x5_0).2).1) (((atI a0 x5_0).2).2) ((atI a1 x5_0).1) (((atI a1 x5_0).2).1) (((atI a1 x5_0).2).2)).bind fun b1 =>
                cond ((!b1))
                  (some false)
                  (F19_l0 k a0 a1 n (IntKind.i64.wrap (x5_0 + 1))))
              (none))
            (none))
          (none))
        (none))
      (some true)
theorem F19_l0_rd {β : Type} (k n : Nat) (a0 : List (den pace)) (a1 : List (den pace)) (x5_0 : Int) (K : A × List (List Leaf) → Option β) :
    loopG (F19_E k) Try.f19 [1, 1, 0, 1, 0] 0 (kontAt (F19_E k) [1, 1, 0, 1, 0] (bodyOf Try.f19) 0 (endC (F19_E k) Try.f19 [.one (.l (.s .ro pace a0)), .one (.l (.s .ro pace a1))] K)) (n + 1) (F19_s0 a0 a1 x5_0) =
    cond (decide (x5_0 < ((a0.length : Nat) : Int)))
      (cond (decide (0 ≤ x5_0))
        (cond (decide (x5_0 < ((a0.length : Nat) : Int)))
          (cond (decide (0 ≤ x5_0))
            (cond (decide (x5_0 < ((a1.length : Nat) : Int)))
              ((F53 k ((atI a0 x5_0).1) (((atI a0 x5_0).2).1) (((atI a0 x5_0).2).2) ((atI a1 x5_0).1) (((atI a1 x5_0).2).1) (((atI a1 x5_0).2).2)).bind fun b1 =>
                cond ((!b1))
                  (K (.one (.v (.bool false)), []))
                  (loopG (F19_E k) Try.f19 [1, 1, 0, 1, 0] 0 (kontAt (F19_E k) [1, 1, 0, 1, 0] (bodyOf Try.f19) 0 (endC (F19_E k) Try.f19 [.one (.l (.s .ro pace a0)), .one (.l (.s .ro pace a1))] K)) n (F19_s0 a0 a1 (IntKind.i64.wrap (x5_0 + 1)))))
              (none))
            (none))
          (none))
        (none))
      (K (.one (.v (.bool true)), [])) := by kernel_rfl
theorem F19_l0_lp {β : Type} (k : Nat) (a0 : List (den pace)) (a1 : List (den pace)) (K : A × List (List Leaf) → Option β) (n : Nat) : ∀ (x5_0 : Int), loopG (F19_E k) Try.f19 [1, 1, 0, 1, 0] 0 (kontAt (F19_E k) [1, 1, 0, 1, 0] (bodyOf Try.f19) 0 (endC (F19_E k) Try.f19 [.one (.l (.s .ro pace a0)), .one (.l (.s .ro pace a1))] K)) n (F19_s0 a0 a1 x5_0) =
    (F19_l0 k a0 a1 n x5_0).bind fun r => K (.one (.v (.bool r)), []) := by
  induction n with
  | zero => intros; rfl
  | succ n ih =>
    intros
    rw [F19_l0_rd, F19_l0]
    simp only [bind_cond, Option.bind_assoc, Option.bind_some, Option.bind_none, Option.bind_fun_some, ih]
def F19 (k : Nat) (a0 : List (den pace)) (a1 : List (den pace)) : Option (Bool) :=
  cond ((((a0.length : Nat) : Int) != ((a1.length : Nat) : Int)))
    (some false)
    (F19_l0 k a0 a1 k 0)
theorem F19_st {β : Type} (k : Nat) (a0 : List (den pace)) (a1 : List (den pace)) (K : A × List (List Leaf) → Option β) : evalF (F19_E k) Try.f19 [.one (.l (.s .ro pace a0)), .one (.l (.s .ro pace a1))] K =
    cond ((((a0.length : Nat) : Int) != ((a1.length : Nat) : Int)))
      (K (.one (.v (.bool false)), []))
      (loopG (F19_E k) Try.f19 [1, 1, 0, 1, 0] 0 (kontAt (F19_E k) [1, 1, 0, 1, 0] (bodyOf Try.f19) 0 (endC (F19_E k) Try.f19 [.one (.l (.s .ro pace a0)), .one (.l (.s .ro pace a1))] K)) k (F19_s0 a0 a1 0)) := by kernel_rfl
theorem F19_ev {β : Type} (k : Nat) (a0 : List (den pace)) (a1 : List (den pace)) (K : A × List (List Leaf) → Option β) : evalF (F19_E k) Try.f19 [.one (.l (.s .ro pace a0)), .one (.l (.s .ro pace a1))] K = (F19 k a0 a1).bind fun r => K (.one (.v (.bool r)), []) := by
  rw [F19_st, F19]
  simp only [bind_cond, Option.bind_assoc, Option.bind_some, Option.bind_none, Option.bind_fun_some, F19_l0_lp]
theorem F19_tOk (k : Nat) : TabFn Try.prog (F19_t k) := by
  constructor <;> intro f xs cr h <;> unfold F19_t at h <;> split at h <;> first | (simp only [Option.some.injEq] at h; subst h) | (simp at h; done)
  · exact F53_con _ _ _ _ _ _ _
  · exact .of (by kernel_rfl)
theorem F19_con (k : Nat) (a0 : List (den pace)) (a1 : List (den pace)) : Contract Try.prog 19 [.one (.l (.s .ro pace a0)), .one (.l (.s .ro pace a1))] ⟨F19 k a0 a1, fun r => (.one (.v (.bool r)), [])⟩ :=
  con_of (envOk (F19_tOk k) _ _ _) mixed Try.func19 rfl (F19_ev k a0 a1 some)
/-! 3: loop.example/netstack/laws.FnExactSharedOk -/
def F3_t (k : Nat) : Tab
  | 15, [.one (.l (.s .ro (.pair (.int .i64) (.pair (.int .i64) (.int .i64))) a0)), .one (.l (.v (.int .i64 a1)))] => some ⟨F15 k a0 a1, fun r => (.one (.v (.int .i64 r)), [])⟩
  | 17, [.one (.l (.s .ro (.pair (.int .i64) (.pair (.int .i64) (.int .i64))) a0))] => some ⟨F17 k a0, fun r => (.one (.s .own pace r), [])⟩
  | 16, [.one (.l (.s .ro (.pair (.int .i64) (.pair (.int .i64) (.int .i64))) a0))] => some ⟨F16 k a0, fun r => (.one (.v (.bool r)), [])⟩
  | 18, [.one (.l (.s .ro (.pair (.int .i64) (.pair (.int .i64) (.int .i64))) a0))] => some ⟨F18 k a0, fun r => (.one (.v (.bool r)), [])⟩
  | 19, [.one (.l (.s .ro (.pair (.int .i64) (.pair (.int .i64) (.int .i64))) a0)), .one (.l (.s .ro (.pair (.int .i64) (.pair (.int .i64) (.int .i64))) a1))] => some ⟨F19 k a0 a1, fun r => (.one (.v (.bool r)), [])⟩
  | _, _ => none
abbrev F3_E (k : Nat) : Env := env (F3_t k) noHint .own k
def F3 (k : Nat) (a0 : List (den pace)) : Option (Bool) :=
  (F15 k a0 1048576).bind fun b1 =>
    cond (decide (b1 < 0))
      (some true)
      ((F17 k a0).bind fun b2 =>
        (F16 k b2).bind fun b3 =>
          (F17 k a0).bind fun b4 =>
            (F18 k b4).bind fun b5 =>
              cond ((!(b5 == b3)))
                (some false)
                ((F17 k a0).bind fun b6 =>
                  (F19 k b4 b6).bind fun b7 =>
                    cond ((!b7))
                      (some false)
                      (some true)))
theorem F3_st {β : Type} (k : Nat) (a0 : List (den pace)) (K : A × List (List Leaf) → Option β) : evalF (F3_E k) Try.f3 [.one (.l (.s .ro pace a0))] K =
    (F15 k a0 1048576).bind fun b1 =>
      cond (decide (b1 < 0))
        (K (.one (.v (.bool true)), []))
        ((F17 k a0).bind fun b2 =>
          (F16 k b2).bind fun b3 =>
            (F17 k a0).bind fun b4 =>
              (F18 k b4).bind fun b5 =>
                cond ((!(b5 == b3)))
                  (K (.one (.v (.bool false)), []))
                  ((F17 k a0).bind fun b6 =>
                    (F19 k b4 b6).bind fun b7 =>
                      cond ((!b7))
                        (K (.one (.v (.bool false)), []))
                        (K (.one (.v (.bool true)), [])))) := by kernel_rfl
theorem F3_ev {β : Type} (k : Nat) (a0 : List (den pace)) (K : A × List (List Leaf) → Option β) : evalF (F3_E k) Try.f3 [.one (.l (.s .ro pace a0))] K = (F3 k a0).bind fun r => K (.one (.v (.bool r)), []) := by
  rw [F3_st, F3]
  simp only [bind_cond, Option.bind_assoc, Option.bind_some, Option.bind_none, Option.bind_fun_some]
theorem F3_tOk (k : Nat) : TabFn Try.prog (F3_t k) := by
  constructor <;> intro f xs cr h <;> unfold F3_t at h <;> split at h <;> first | (simp only [Option.some.injEq] at h; subst h) | (simp at h; done)
  · exact F15_con _ _ _
  · exact F17_con _ _
  · exact F16_con _ _
  · exact F18_con _ _
  · exact F19_con _ _ _
  · exact .of (by kernel_rfl)
  · exact .of (by kernel_rfl)
  · exact .of (by kernel_rfl)
  · exact .of (by kernel_rfl)
  · exact .of (by kernel_rfl)
theorem F3_con (k : Nat) (a0 : List (den pace)) : Contract Try.prog 3 [.one (.l (.s .ro pace a0))] ⟨F3 k a0, fun r => (.one (.v (.bool r)), [])⟩ :=
  con_of (envOk (F3_tOk k) _ _ _) mixed Try.func3 rfl (F3_ev k a0 some)
/-! 20: loop.example/netstack/spec.SharedFar -/
def F20_h : Nat → Hint
  | 0 => ⟨[(0, .plain), (3, .plain), (4, .plain), (5, .plain)], []⟩
  | _ => ⟨[], []⟩
def F20_t (k : Nat) : Tab
  | 16, [.one (.l (.s .ro (.pair (.int .i64) (.pair (.int .i64) (.int .i64))) a0))] => some ⟨F16 k a0, fun r => (.one (.v (.bool r)), [])⟩
  | _, _ => none
abbrev F20_E (k : Nat) : Env := env (F20_t k) F20_h .own k
def F20_s0 (a0 : List (den pace)) (x3_0 : Int) (x4_0 : Int) (x5_0 : Int) : St := ⟨[.one (.s .ro pace a0), .one .d, .one .d, .one (.v (.int .i64 x3_0)), .one (.v (.int .i64 x4_0)), .one (.v (.int .i64 x5_0)), .one .d, .one .d, .one .d, .one .d, .one .d, .one .d, .one .d, .one .d, .one .d, .one .d, .one .d, .one .d, .one .d, .one .d, .one .d, .one .d, .one .d, .one .d, .one .d, .one .d, .one .d, .one .d, .one .d, .one .d, .one .d, .one .d], []⟩
def F20_l0 (k : Nat) (a0 : List (den pace)) : Nat → Int → Int → Int → Option (Int)
  | 0, _, _, _ => none
  | n + 1, x3_0, x4_0, x5_0 =>
    cond (decide (x5_0 < ((a0.length : Nat) : Int)))
      (cond (decide (0 ≤ x5_0))
        (cond (decide (x5_0 < ((a0.length : Nat) : Int)))
          (cond (decide (0 ≤ x5_0))
            (cond (decide (x5_0 < ((a0.length : Nat) : Int)))
              (F20_l0 k a0 n (if ((atI a0 x5_0).1) < x3_0 then (atI a0 x5_0).1 else x3_0) (if x4_0 < ((atI a0 x5_0).1) then (atI a0 x5_0).1 else x4_0) (IntKind.i64.wrap (x5_0 + 1)))
              (none))
            (none))
          (none))
        (none))
      (some (IntKind.i64.wrap (x4_0 - x3_0)))
theorem F20_l0_rd {β : Type} (k n : Nat) (a0 : List (den pace)) (x3_0 : Int) (x4_0 : Int) (x5_0 : Int) (K : A × List (List Leaf) → Option β) :
    loopG (F20_E k) Try.f20 [1, 1, 1, 0, 1, 0] 0 (kontAt (F20_E k) [1, 1, 1, 0, 1, 0] (bodyOf Try.f20) 0 (endC (F20_E k) Try.f20 [.one (.l (.s .ro pace a0))] K)) (n + 1) (F20_s0 a0 x3_0 x4_0 x5_0) =
    cond (decide (x5_0 < ((a0.length : Nat) : Int)))
      (cond (decide (0 ≤ x5_0))
        (cond (decide (x5_0 < ((a0.length : Nat) : Int)))
          (cond (decide (0 ≤ x5_0))
            (cond (decide (x5_0 < ((a0.length : Nat) : Int)))
              (loopG (F20_E k) Try.f20 [1, 1, 1, 0, 1, 0] 0 (kontAt (F20_E k) [1, 1, 1, 0, 1, 0] (bodyOf Try.f20) 0 (endC (F20_E k) Try.f20 [.one (.l (.s .ro pace a0))] K)) n (F20_s0 a0 (if ((atI a0 x5_0).1) < x3_0 then (atI a0 x5_0).1 else x3_0) (if x4_0 < ((atI a0 x5_0).1) then (atI a0 x5_0).1 else x4_0) (IntKind.i64.wrap (x5_0 + 1))))
              (none))
            (none))
          (none))
        (none))
      (K (.one (.v (.int .i64 (IntKind.i64.wrap (x4_0 - x3_0)))), [])) := by kernel_rfl
theorem F20_l0_lp {β : Type} (k : Nat) (a0 : List (den pace)) (K : A × List (List Leaf) → Option β) (n : Nat) : ∀ (x3_0 : Int) (x4_0 : Int) (x5_0 : Int), loopG (F20_E k) Try.f20 [1, 1, 1, 0, 1, 0] 0 (kontAt (F20_E k) [1, 1, 1, 0, 1, 0] (bodyOf Try.f20) 0 (endC (F20_E k) Try.f20 [.one (.l (.s .ro pace a0))] K)) n (F20_s0 a0 x3_0 x4_0 x5_0) =
    (F20_l0 k a0 n x3_0 x4_0 x5_0).bind fun r => K (.one (.v (.int .i64 r)), []) := by
  induction n with
  | zero => intros; rfl
  | succ n ih =>
    intros
    rw [F20_l0_rd, F20_l0]
    simp only [bind_cond, Option.bind_assoc, Option.bind_some, Option.bind_none, Option.bind_fun_some, ih]
def F20 (k : Nat) (a0 : List (den pace)) : Option (Int) :=
  (F16 k a0).bind fun b1 =>
    cond ((!b1))
      (some (-1))
      (F20_l0 k a0 k 64 0 0)
theorem F20_st {β : Type} (k : Nat) (a0 : List (den pace)) (K : A × List (List Leaf) → Option β) : evalF (F20_E k) Try.f20 [.one (.l (.s .ro pace a0))] K =
    (F16 k a0).bind fun b1 =>
      cond ((!b1))
        (K (.one (.v (.int .i64 (-1))), []))
        (loopG (F20_E k) Try.f20 [1, 1, 1, 0, 1, 0] 0 (kontAt (F20_E k) [1, 1, 1, 0, 1, 0] (bodyOf Try.f20) 0 (endC (F20_E k) Try.f20 [.one (.l (.s .ro pace a0))] K)) k (F20_s0 a0 64 0 0)) := by kernel_rfl
theorem F20_ev {β : Type} (k : Nat) (a0 : List (den pace)) (K : A × List (List Leaf) → Option β) : evalF (F20_E k) Try.f20 [.one (.l (.s .ro pace a0))] K = (F20 k a0).bind fun r => K (.one (.v (.int .i64 r)), []) := by
  rw [F20_st, F20]
  simp only [bind_cond, Option.bind_assoc, Option.bind_some, Option.bind_none, Option.bind_fun_some, F20_l0_lp]
theorem F20_tOk (k : Nat) : TabFn Try.prog (F20_t k) := by
  constructor <;> intro f xs cr h <;> unfold F20_t at h <;> split at h <;> first | (simp only [Option.some.injEq] at h; subst h) | (simp at h; done)
  · exact F16_con _ _
  · exact .of (by kernel_rfl)
theorem F20_con (k : Nat) (a0 : List (den pace)) : Contract Try.prog 20 [.one (.l (.s .ro pace a0))] ⟨F20 k a0, fun r => (.one (.v (.int .i64 r)), [])⟩ :=
  con_of (envOk (F20_tOk k) _ _ _) mixed Try.func20 rfl (F20_ev k a0 some)
/-! 21: loop.example/netstack/impl.SharedFar -/
def F21_h : Nat → Hint
  | 0 => ⟨[(3, .plain), (4, .plain), (18, .plain), (19, .plain), (20, .plain)], []⟩
  | _ => ⟨[], []⟩
def F21_t (k : Nat) : Tab
  | 18, [.one (.l (.s .ro (.pair (.int .i64) (.pair (.int .i64) (.int .i64))) a0))] => some ⟨F18 k a0, fun r => (.one (.v (.bool r)), [])⟩
  | _, _ => none
abbrev F21_E (k : Nat) : Env := env (F21_t k) F21_h .own k
def F21_s0 (a0 : List (den pace)) (x3_0 : Int) (x4_0 : Int) (x20_0 : Int) : St := ⟨[.one .d, .one .d, .one .d, .one (.v (.int .i64 x3_0)), .one (.v (.int .i64 x4_0)), .one .d, .one .d, .one .d, .one .d, .one .d, .one .d, .one .d, .one .d, .one .d, .one .d, .one .d, .one .d, .one .d, .one (.s .ro pace a0), .one (.v (.int .i64 ((a0.length : Nat) : Int))), .one (.v (.int .i64 x20_0)), .one .d, .one .d, .one .d, .one .d, .one .d, .one .d, .one .d, .one .d, .one .d, .one .d, .one .d, .one .d, .one .d, .one .d, .one .d], []⟩
def F21_l0 (k : Nat) (a0 : List (den pace)) : Nat → Int → Int → Int → Option (Int)
  | 0, _, _, _ => none
  | n + 1, x3_0, x4_0, x20_0 =>
    cond (decide (x20_0 < ((a0.length : Nat) : Int)))
      (cond (decide (0 ≤ x20_0))
        (cond (decide (x20_0 < ((a0.length : Nat) : Int)))
          (F21_l0 k a0 n (if ((atI a0 x20_0).1) < x3_0 then (atI a0 x20_0).1 else x3_0) (if x4_0 < ((atI a0 x20_0).1) then (atI a0 x20_0).1 else x4_0) (IntKind.i64.wrap (x20_0 + 1)))
          (none))
        (none))
      (some (IntKind.i64.wrap (x4_0 - x3_0)))
theorem F21_l0_rd {β : Type} (k n : Nat) (a0 : List (den pace)) (x3_0 : Int) (x4_0 : Int) (x20_0 : Int) (K : A × List (List Leaf) → Option β) :
    loopG (F21_E k) Try.f21 [1, 1, 1, 0, 1, 0] 0 (kontAt (F21_E k) [1, 1, 1, 0, 1, 0] (bodyOf Try.f21) 0 (endC (F21_E k) Try.f21 [.one (.l (.s .ro pace a0))] K)) (n + 1) (F21_s0 a0 x3_0 x4_0 x20_0) =
    cond (decide (x20_0 < ((a0.length : Nat) : Int)))
      (cond (decide (0 ≤ x20_0))
        (cond (decide (x20_0 < ((a0.length : Nat) : Int)))
          (loopG (F21_E k) Try.f21 [1, 1, 1, 0, 1, 0] 0 (kontAt (F21_E k) [1, 1, 1, 0, 1, 0] (bodyOf Try.f21) 0 (endC (F21_E k) Try.f21 [.one (.l (.s .ro pace a0))] K)) n (F21_s0 a0 (if ((atI a0 x20_0).1) < x3_0 then (atI a0 x20_0).1 else x3_0) (if x4_0 < ((atI a0 x20_0).1) then (atI a0 x20_0).1 else x4_0) (IntKind.i64.wrap (x20_0 + 1))))
          (none))
        (none))
      (K (.one (.v (.int .i64 (IntKind.i64.wrap (x4_0 - x3_0)))), [])) := by kernel_rfl
theorem F21_l0_lp {β : Type} (k : Nat) (a0 : List (den pace)) (K : A × List (List Leaf) → Option β) (n : Nat) : ∀ (x3_0 : Int) (x4_0 : Int) (x20_0 : Int), loopG (F21_E k) Try.f21 [1, 1, 1, 0, 1, 0] 0 (kontAt (F21_E k) [1, 1, 1, 0, 1, 0] (bodyOf Try.f21) 0 (endC (F21_E k) Try.f21 [.one (.l (.s .ro pace a0))] K)) n (F21_s0 a0 x3_0 x4_0 x20_0) =
    (F21_l0 k a0 n x3_0 x4_0 x20_0).bind fun r => K (.one (.v (.int .i64 r)), []) := by
  induction n with
  | zero => intros; rfl
  | succ n ih =>
    intros
    rw [F21_l0_rd, F21_l0]
    simp only [bind_cond, Option.bind_assoc, Option.bind_some, Option.bind_none, Option.bind_fun_some, ih]
def F21 (k : Nat) (a0 : List (den pace)) : Option (Int) :=
  (F18 k a0).bind fun b1 =>
    cond ((!b1))
      (some (-1))
      (cond (decide (0 < ((a0.length : Nat) : Int)))
        (cond (decide (0 < ((a0.length : Nat) : Int)))
          (F21_l0 k a0 k ((atI a0 0).1) ((atI a0 0).1) 0)
          (none))
        (none))
theorem F21_st {β : Type} (k : Nat) (a0 : List (den pace)) (K : A × List (List Leaf) → Option β) : evalF (F21_E k) Try.f21 [.one (.l (.s .ro pace a0))] K =
    (F18 k a0).bind fun b1 =>
      cond ((!b1))
        (K (.one (.v (.int .i64 (-1))), []))
        (cond (decide (0 < ((a0.length : Nat) : Int)))
          (cond (decide (0 < ((a0.length : Nat) : Int)))
            (loopG (F21_E k) Try.f21 [1, 1, 1, 0, 1, 0] 0 (kontAt (F21_E k) [1, 1, 1, 0, 1, 0] (bodyOf Try.f21) 0 (endC (F21_E k) Try.f21 [.one (.l (.s .ro pace a0))] K)) k (F21_s0 a0 ((atI a0 0).1) ((atI a0 0).1) 0))
            (none))
          (none)) := by kernel_rfl
theorem F21_ev {β : Type} (k : Nat) (a0 : List (den pace)) (K : A × List (List Leaf) → Option β) : evalF (F21_E k) Try.f21 [.one (.l (.s .ro pace a0))] K = (F21 k a0).bind fun r => K (.one (.v (.int .i64 r)), []) := by
  rw [F21_st, F21]
  simp only [bind_cond, Option.bind_assoc, Option.bind_some, Option.bind_none, Option.bind_fun_some, F21_l0_lp]
theorem F21_tOk (k : Nat) : TabFn Try.prog (F21_t k) := by
  constructor <;> intro f xs cr h <;> unfold F21_t at h <;> split at h <;> first | (simp only [Option.some.injEq] at h; subst h) | (simp at h; done)
  · exact F18_con _ _
  · exact .of (by kernel_rfl)
theorem F21_con (k : Nat) (a0 : List (den pace)) : Contract Try.prog 21 [.one (.l (.s .ro pace a0))] ⟨F21 k a0, fun r => (.one (.v (.int .i64 r)), [])⟩ :=
  con_of (envOk (F21_tOk k) _ _ _) mixed Try.func21 rfl (F21_ev k a0 some)
/-! 4: loop.example/netstack/laws.FnExactSharedFar -/
def F4_t (k : Nat) : Tab
  | 15, [.one (.l (.s .ro (.pair (.int .i64) (.pair (.int .i64) (.int .i64))) a0)), .one (.l (.v (.int .i64 a1)))] => some ⟨F15 k a0 a1, fun r => (.one (.v (.int .i64 r)), [])⟩
  | 17, [.one (.l (.s .ro (.pair (.int .i64) (.pair (.int .i64) (.int .i64))) a0))] => some ⟨F17 k a0, fun r => (.one (.s .own pace r), [])⟩
  | 20, [.one (.l (.s .ro (.pair (.int .i64) (.pair (.int .i64) (.int .i64))) a0))] => some ⟨F20 k a0, fun r => (.one (.v (.int .i64 r)), [])⟩
  | 21, [.one (.l (.s .ro (.pair (.int .i64) (.pair (.int .i64) (.int .i64))) a0))] => some ⟨F21 k a0, fun r => (.one (.v (.int .i64 r)), [])⟩
  | 19, [.one (.l (.s .ro (.pair (.int .i64) (.pair (.int .i64) (.int .i64))) a0)), .one (.l (.s .ro (.pair (.int .i64) (.pair (.int .i64) (.int .i64))) a1))] => some ⟨F19 k a0 a1, fun r => (.one (.v (.bool r)), [])⟩
  | _, _ => none
abbrev F4_E (k : Nat) : Env := env (F4_t k) noHint .own k
def F4 (k : Nat) (a0 : List (den pace)) : Option (Bool) :=
  (F15 k a0 1048576).bind fun b1 =>
    cond (decide (b1 < 0))
      (some true)
      ((F17 k a0).bind fun b2 =>
        (F20 k b2).bind fun b3 =>
          (F17 k a0).bind fun b4 =>
            (F21 k b4).bind fun b5 =>
              cond ((b5 != b3))
                (some false)
                ((F17 k a0).bind fun b6 =>
                  (F19 k b4 b6).bind fun b7 =>
                    cond ((!b7))
                      (some false)
                      (some true)))
theorem F4_st {β : Type} (k : Nat) (a0 : List (den pace)) (K : A × List (List Leaf) → Option β) : evalF (F4_E k) Try.f4 [.one (.l (.s .ro pace a0))] K =
    (F15 k a0 1048576).bind fun b1 =>
      cond (decide (b1 < 0))
        (K (.one (.v (.bool true)), []))
        ((F17 k a0).bind fun b2 =>
          (F20 k b2).bind fun b3 =>
            (F17 k a0).bind fun b4 =>
              (F21 k b4).bind fun b5 =>
                cond ((b5 != b3))
                  (K (.one (.v (.bool false)), []))
                  ((F17 k a0).bind fun b6 =>
                    (F19 k b4 b6).bind fun b7 =>
                      cond ((!b7))
                        (K (.one (.v (.bool false)), []))
                        (K (.one (.v (.bool true)), [])))) := by kernel_rfl
theorem F4_ev {β : Type} (k : Nat) (a0 : List (den pace)) (K : A × List (List Leaf) → Option β) : evalF (F4_E k) Try.f4 [.one (.l (.s .ro pace a0))] K = (F4 k a0).bind fun r => K (.one (.v (.bool r)), []) := by
  rw [F4_st, F4]
  simp only [bind_cond, Option.bind_assoc, Option.bind_some, Option.bind_none, Option.bind_fun_some]
theorem F4_tOk (k : Nat) : TabFn Try.prog (F4_t k) := by
  constructor <;> intro f xs cr h <;> unfold F4_t at h <;> split at h <;> first | (simp only [Option.some.injEq] at h; subst h) | (simp at h; done)
  · exact F15_con _ _ _
  · exact F17_con _ _
  · exact F20_con _ _
  · exact F21_con _ _
  · exact F19_con _ _ _
  · exact .of (by kernel_rfl)
  · exact .of (by kernel_rfl)
  · exact .of (by kernel_rfl)
  · exact .of (by kernel_rfl)
  · exact .of (by kernel_rfl)
theorem F4_con (k : Nat) (a0 : List (den pace)) : Contract Try.prog 4 [.one (.l (.s .ro pace a0))] ⟨F4 k a0, fun r => (.one (.v (.bool r)), [])⟩ :=
  con_of (envOk (F4_tOk k) _ _ _) mixed Try.func4 rfl (F4_ev k a0 some)
/-! 22: loop.example/netstack/spec.SharedAll -/
def F22_h : Nat → Hint
  | 0 => ⟨[(0, .plain), (3, .plain), (4, .plain)], []⟩
  | _ => ⟨[], []⟩
def F22_t (k : Nat) : Tab
  | 16, [.one (.l (.s .ro (.pair (.int .i64) (.pair (.int .i64) (.int .i64))) a0))] => some ⟨F16 k a0, fun r => (.one (.v (.bool r)), [])⟩
  | _, _ => none
abbrev F22_E (k : Nat) : Env := env (F22_t k) F22_h .own k
def F22_s0 (a0 : List (den pace)) (x3_0 : Int) (x4_0 : Int) : St := ⟨[.one (.s .ro pace a0), .one .d, .one .d, .one (.v (.int .i64 x3_0)), .one (.v (.int .i64 x4_0)), .one .d, .one .d, .one .d, .one .d, .one .d, .one .d, .one .d, .one .d, .one .d, .one .d, .one .d, .one .d, .one .d, .one .d, .one .d, .one .d, .one .d], []⟩
def F22_l0 (k : Nat) (a0 : List (den pace)) : Nat → Int → Int → Option (Int)
  | 0, _, _ => none
  | n + 1, x3_0, x4_0 =>
    cond (decide (x4_0 < ((a0.length : Nat) : Int)))
      (cond (decide (0 ≤ x4_0))
        (cond (decide (x4_0 < ((a0.length : Nat) : Int)))
          (F22_l0 k a0 n (IntKind.i64.wrap (x3_0 + ((atI a0 x4_0).1))) (IntKind.i64.wrap (x4_0 + 1)))
          (none))
        (none))
      (some x3_0)
theorem F22_l0_rd {β : Type} (k n : Nat) (a0 : List (den pace)) (x3_0 : Int) (x4_0 : Int) (K : A × List (List Leaf) → Option β) :
    loopG (F22_E k) Try.f22 [1, 1, 1, 0, 1, 0] 0 (kontAt (F22_E k) [1, 1, 1, 0, 1, 0] (bodyOf Try.f22) 0 (endC (F22_E k) Try.f22 [.one (.l (.s .ro pace a0))] K)) (n + 1) (F22_s0 a0 x3_0 x4_0) =
    cond (decide (x4_0 < ((a0.length : Nat) : Int)))
      (cond (decide (0 ≤ x4_0))
        (cond (decide (x4_0 < ((a0.length : Nat) : Int)))
          (loopG (F22_E k) Try.f22 [1, 1, 1, 0, 1, 0] 0 (kontAt (F22_E k) [1, 1, 1, 0, 1, 0] (bodyOf Try.f22) 0 (endC (F22_E k) Try.f22 [.one (.l (.s .ro pace a0))] K)) n (F22_s0 a0 (IntKind.i64.wrap (x3_0 + ((atI a0 x4_0).1))) (IntKind.i64.wrap (x4_0 + 1))))
          (none))
        (none))
      (K (.one (.v (.int .i64 x3_0)), [])) := by kernel_rfl
theorem F22_l0_lp {β : Type} (k : Nat) (a0 : List (den pace)) (K : A × List (List Leaf) → Option β) (n : Nat) : ∀ (x3_0 : Int) (x4_0 : Int), loopG (F22_E k) Try.f22 [1, 1, 1, 0, 1, 0] 0 (kontAt (F22_E k) [1, 1, 1, 0, 1, 0] (bodyOf Try.f22) 0 (endC (F22_E k) Try.f22 [.one (.l (.s .ro pace a0))] K)) n (F22_s0 a0 x3_0 x4_0) =
    (F22_l0 k a0 n x3_0 x4_0).bind fun r => K (.one (.v (.int .i64 r)), []) := by
  induction n with
  | zero => intros; rfl
  | succ n ih =>
    intros
    rw [F22_l0_rd, F22_l0]
    simp only [bind_cond, Option.bind_assoc, Option.bind_some, Option.bind_none, Option.bind_fun_some, ih]
def F22 (k : Nat) (a0 : List (den pace)) : Option (Int) :=
  (F16 k a0).bind fun b1 =>
    cond ((!b1))
      (some (-1))
      (F22_l0 k a0 k 0 0)
theorem F22_st {β : Type} (k : Nat) (a0 : List (den pace)) (K : A × List (List Leaf) → Option β) : evalF (F22_E k) Try.f22 [.one (.l (.s .ro pace a0))] K =
    (F16 k a0).bind fun b1 =>
      cond ((!b1))
        (K (.one (.v (.int .i64 (-1))), []))
        (loopG (F22_E k) Try.f22 [1, 1, 1, 0, 1, 0] 0 (kontAt (F22_E k) [1, 1, 1, 0, 1, 0] (bodyOf Try.f22) 0 (endC (F22_E k) Try.f22 [.one (.l (.s .ro pace a0))] K)) k (F22_s0 a0 0 0)) := by kernel_rfl
theorem F22_ev {β : Type} (k : Nat) (a0 : List (den pace)) (K : A × List (List Leaf) → Option β) : evalF (F22_E k) Try.f22 [.one (.l (.s .ro pace a0))] K = (F22 k a0).bind fun r => K (.one (.v (.int .i64 r)), []) := by
  rw [F22_st, F22]
  simp only [bind_cond, Option.bind_assoc, Option.bind_some, Option.bind_none, Option.bind_fun_some, F22_l0_lp]
theorem F22_tOk (k : Nat) : TabFn Try.prog (F22_t k) := by
  constructor <;> intro f xs cr h <;> unfold F22_t at h <;> split at h <;> first | (simp only [Option.some.injEq] at h; subst h) | (simp at h; done)
  · exact F16_con _ _
  · exact .of (by kernel_rfl)
theorem F22_con (k : Nat) (a0 : List (den pace)) : Contract Try.prog 22 [.one (.l (.s .ro pace a0))] ⟨F22 k a0, fun r => (.one (.v (.int .i64 r)), [])⟩ :=
  con_of (envOk (F22_tOk k) _ _ _) mixed Try.func22 rfl (F22_ev k a0 some)
/-! 54: loop.example/netstack/impl.sharedAll -/
def F54_h : Nat → Hint
  | 0 => ⟨[(3, .plain), (6, .plain), (7, .plain), (8, .plain)], []⟩
  | _ => ⟨[], []⟩
abbrev F54_E (k : Nat) : Env := env noTab F54_h .own k
def F54_s0 (a0 : List (den pace)) (x3_0 : Int) (x8_0 : Int) : St := ⟨[.one .d, .one .d, .one .d, .one (.v (.int .i64 x3_0)), .one .d, .one .d, .one (.s .ro pace a0), .one (.v (.int .i64 ((a0.length : Nat) : Int))), .one (.v (.int .i64 x8_0)), .one .d, .one .d, .one .d, .one .d, .one .d, .one .d, .one .d, .one .d, .one .d], []⟩
def F54_l0 (k : Nat) (a0 : List (den pace)) : Nat → Int → Int → Option (Int)
  | 0, _, _ => none
  | n + 1, x3_0, x8_0 =>
    cond (decide (x8_0 < ((a0.length : Nat) : Int)))
      (cond (decide (0 ≤ x8_0))
        (cond (decide (x8_0 < ((a0.length : Nat) : Int)))
          (F54_l0 k a0 n (IntKind.i64.wrap (x3_0 + ((atI a0 x8_0).1))) (IntKind.i64.wrap (x8_0 + 1)))
          (none))
        (none))
      (some x3_0)
theorem F54_l0_rd {β : Type} (k n : Nat) (a0 : List (den pace)) (x3_0 : Int) (x8_0 : Int) (K : A × List (List Leaf) → Option β) :
    loopG (F54_E k) Try.f54 [1, 1, 0, 1, 0] 0 (kontAt (F54_E k) [1, 1, 0, 1, 0] (bodyOf Try.f54) 0 (endC (F54_E k) Try.f54 [.one (.l (.s .ro pace a0))] K)) (n + 1) (F54_s0 a0 x3_0 x8_0) =
    cond (decide (x8_0 < ((a0.length : Nat) : Int)))
      (cond (decide (0 ≤ x8_0))
        (cond (decide (x8_0 < ((a0.length : Nat) : Int)))
          (loopG (F54_E k) Try.f54 [1, 1, 0, 1, 0] 0 (kontAt (F54_E k) [1, 1, 0, 1, 0] (bodyOf Try.f54) 0 (endC (F54_E k) Try.f54 [.one (.l (.s .ro pace a0))] K)) n (F54_s0 a0 (IntKind.i64.wrap (x3_0 + ((atI a0 x8_0).1))) (IntKind.i64.wrap (x8_0 + 1))))
          (none))
        (none))
      (K (.one (.v (.int .i64 x3_0)), [])) := by kernel_rfl
theorem F54_l0_lp {β : Type} (k : Nat) (a0 : List (den pace)) (K : A × List (List Leaf) → Option β) (n : Nat) : ∀ (x3_0 : Int) (x8_0 : Int), loopG (F54_E k) Try.f54 [1, 1, 0, 1, 0] 0 (kontAt (F54_E k) [1, 1, 0, 1, 0] (bodyOf Try.f54) 0 (endC (F54_E k) Try.f54 [.one (.l (.s .ro pace a0))] K)) n (F54_s0 a0 x3_0 x8_0) =
    (F54_l0 k a0 n x3_0 x8_0).bind fun r => K (.one (.v (.int .i64 r)), []) := by
  induction n with
  | zero => intros; rfl
  | succ n ih =>
    intros
    rw [F54_l0_rd, F54_l0]
    simp only [bind_cond, Option.bind_assoc, Option.bind_some, Option.bind_none, Option.bind_fun_some, ih]
def F54 (k : Nat) (a0 : List (den pace)) : Option (Int) :=
  F54_l0 k a0 k 0 0
theorem F54_st {β : Type} (k : Nat) (a0 : List (den pace)) (K : A × List (List Leaf) → Option β) : evalF (F54_E k) Try.f54 [.one (.l (.s .ro pace a0))] K =
    loopG (F54_E k) Try.f54 [1, 1, 0, 1, 0] 0 (kontAt (F54_E k) [1, 1, 0, 1, 0] (bodyOf Try.f54) 0 (endC (F54_E k) Try.f54 [.one (.l (.s .ro pace a0))] K)) k (F54_s0 a0 0 0) := by kernel_rfl
theorem F54_ev {β : Type} (k : Nat) (a0 : List (den pace)) (K : A × List (List Leaf) → Option β) : evalF (F54_E k) Try.f54 [.one (.l (.s .ro pace a0))] K = (F54 k a0).bind fun r => K (.one (.v (.int .i64 r)), []) := by
  rw [F54_st, F54]
  simp only [bind_cond, Option.bind_assoc, Option.bind_some, Option.bind_none, Option.bind_fun_some, F54_l0_lp]
theorem F54_con (k : Nat) (a0 : List (den pace)) : Contract Try.prog 54 [.one (.l (.s .ro pace a0))] ⟨F54 k a0, fun r => (.one (.v (.int .i64 r)), [])⟩ :=
  con_of (envOk .none _ _ _) mixed Try.func54 rfl (F54_ev k a0 some)
/-! 23: loop.example/netstack/impl.SharedAll -/
def F23_t (k : Nat) : Tab
  | 18, [.one (.l (.s .ro (.pair (.int .i64) (.pair (.int .i64) (.int .i64))) a0))] => some ⟨F18 k a0, fun r => (.one (.v (.bool r)), [])⟩
  | 54, [.one (.l (.s .ro (.pair (.int .i64) (.pair (.int .i64) (.int .i64))) a0))] => some ⟨F54 k a0, fun r => (.one (.v (.int .i64 r)), [])⟩
  | _, _ => none
abbrev F23_E (k : Nat) : Env := env (F23_t k) noHint .own k
def F23 (k : Nat) (a0 : List (den pace)) : Option (Int) :=
  (F18 k a0).bind fun b1 =>
    cond ((!b1))
      (some (-1))
      ((F54 k a0).bind fun b2 =>
        some b2)
theorem F23_st {β : Type} (k : Nat) (a0 : List (den pace)) (K : A × List (List Leaf) → Option β) : evalF (F23_E k) Try.f23 [.one (.l (.s .ro pace a0))] K =
    (F18 k a0).bind fun b1 =>
      cond ((!b1))
        (K (.one (.v (.int .i64 (-1))), []))
        ((F54 k a0).bind fun b2 =>
          K (.one (.v (.int .i64 b2)), [])) := by kernel_rfl
theorem F23_ev {β : Type} (k : Nat) (a0 : List (den pace)) (K : A × List (List Leaf) → Option β) : evalF (F23_E k) Try.f23 [.one (.l (.s .ro pace a0))] K = (F23 k a0).bind fun r => K (.one (.v (.int .i64 r)), []) := by
  rw [F23_st, F23]
  simp only [bind_cond, Option.bind_assoc, Option.bind_some, Option.bind_none, Option.bind_fun_some]
theorem F23_tOk (k : Nat) : TabFn Try.prog (F23_t k) := by
  constructor <;> intro f xs cr h <;> unfold F23_t at h <;> split at h <;> first | (simp only [Option.some.injEq] at h; subst h) | (simp at h; done)
  · exact F18_con _ _
  · exact F54_con _ _
  · exact .of (by kernel_rfl)
  · exact .of (by kernel_rfl)
theorem F23_con (k : Nat) (a0 : List (den pace)) : Contract Try.prog 23 [.one (.l (.s .ro pace a0))] ⟨F23 k a0, fun r => (.one (.v (.int .i64 r)), [])⟩ :=
  con_of (envOk (F23_tOk k) _ _ _) mixed Try.func23 rfl (F23_ev k a0 some)
/-! 5: loop.example/netstack/laws.FnExactSharedAll -/
def F5_t (k : Nat) : Tab
  | 15, [.one (.l (.s .ro (.pair (.int .i64) (.pair (.int .i64) (.int .i64))) a0)), .one (.l (.v (.int .i64 a1)))] => some ⟨F15 k a0 a1, fun r => (.one (.v (.int .i64 r)), [])⟩
  | 17, [.one (.l (.s .ro (.pair (.int .i64) (.pair (.int .i64) (.int .i64))) a0))] => some ⟨F17 k a0, fun r => (.one (.s .own pace r), [])⟩
  | 22, [.one (.l (.s .ro (.pair (.int .i64) (.pair (.int .i64) (.int .i64))) a0))] => some ⟨F22 k a0, fun r => (.one (.v (.int .i64 r)), [])⟩
  | 23, [.one (.l (.s .ro (.pair (.int .i64) (.pair (.int .i64) (.int .i64))) a0))] => some ⟨F23 k a0, fun r => (.one (.v (.int .i64 r)), [])⟩
  | 19, [.one (.l (.s .ro (.pair (.int .i64) (.pair (.int .i64) (.int .i64))) a0)), .one (.l (.s .ro (.pair (.int .i64) (.pair (.int .i64) (.int .i64))) a1))] => some ⟨F19 k a0 a1, fun r => (.one (.v (.bool r)), [])⟩
  | _, _ => none
abbrev F5_E (k : Nat) : Env := env (F5_t k) noHint .own k
def F5 (k : Nat) (a0 : List (den pace)) : Option (Bool) :=
  (F15 k a0 1048576).bind fun b1 =>
    cond (decide (b1 < 0))
      (some true)
      ((F17 k a0).bind fun b2 =>
        (F22 k b2).bind fun b3 =>
          (F17 k a0).bind fun b4 =>
            (F23 k b4).bind fun b5 =>
              cond ((b5 != b3))
                (some false)
                ((F17 k a0).bind fun b6 =>
                  (F19 k b4 b6).bind fun b7 =>
                    cond ((!b7))
                      (some false)
                      (some true)))
theorem F5_st {β : Type} (k : Nat) (a0 : List (den pace)) (K : A × List (List Leaf) → Option β) : evalF (F5_E k) Try.f5 [.one (.l (.s .ro pace a0))] K =
    (F15 k a0 1048576).bind fun b1 =>
      cond (decide (b1 < 0))
        (K (.one (.v (.bool true)), []))
        ((F17 k a0).bind fun b2 =>
          (F22 k b2).bind fun b3 =>
            (F17 k a0).bind fun b4 =>
              (F23 k b4).bind fun b5 =>
                cond ((b5 != b3))
                  (K (.one (.v (.bool false)), []))
                  ((F17 k a0).bind fun b6 =>
                    (F19 k b4 b6).bind fun b7 =>
                      cond ((!b7))
                        (K (.one (.v (.bool false)), []))
                        (K (.one (.v (.bool true)), [])))) := by kernel_rfl
theorem F5_ev {β : Type} (k : Nat) (a0 : List (den pace)) (K : A × List (List Leaf) → Option β) : evalF (F5_E k) Try.f5 [.one (.l (.s .ro pace a0))] K = (F5 k a0).bind fun r => K (.one (.v (.bool r)), []) := by
  rw [F5_st, F5]
  simp only [bind_cond, Option.bind_assoc, Option.bind_some, Option.bind_none, Option.bind_fun_some]
theorem F5_tOk (k : Nat) : TabFn Try.prog (F5_t k) := by
  constructor <;> intro f xs cr h <;> unfold F5_t at h <;> split at h <;> first | (simp only [Option.some.injEq] at h; subst h) | (simp at h; done)
  · exact F15_con _ _ _
  · exact F17_con _ _
  · exact F22_con _ _
  · exact F23_con _ _
  · exact F19_con _ _ _
  · exact .of (by kernel_rfl)
  · exact .of (by kernel_rfl)
  · exact .of (by kernel_rfl)
  · exact .of (by kernel_rfl)
  · exact .of (by kernel_rfl)
theorem F5_con (k : Nat) (a0 : List (den pace)) : Contract Try.prog 5 [.one (.l (.s .ro pace a0))] ⟨F5 k a0, fun r => (.one (.v (.bool r)), [])⟩ :=
  con_of (envOk (F5_tOk k) _ _ _) mixed Try.func5 rfl (F5_ev k a0 some)
end Go.Proofs.Ytkbaaipnjbcnlaa.Gn
end

section
set_option linter.unusedVariables false
set_option linter.unusedSimpArgs false
/-
  Paces shared: the plain functions, in plain words.
-/
namespace Go.Proofs.Ytkbaaipnjbcnlaa.Gn
open Go.Rf Go.IntWalk

def inB (a b c : Int) : Bool := decide (b ≤ a) && decide (a ≤ c)
theorem F47_eq (k : Nat) (a b c : Int) : F47 k a b c = some (inB a b c) := by
  unfold F47 inB
  have : decide (a ≥ b) = decide (b ≤ a) := rfl
  rw [this]
  cases decide (b ≤ a) <;> rfl
theorem F49_eq (k : Nat) (a b c : Int) : F49 k a b c = some (inB a b c) := F47_eq k a b c
def okB (p : den pace) : Bool := inB p.1 1 64 && inB p.2.1 2 64 && inB p.2.2 0 (IntKind.i64.wrap (p.1 - 1))
theorem F46_eq (k : Nat) (p : den pace) : F46 k p.1 p.2.1 p.2.2 = some (okB p) := by
  unfold F46 okB
  rw [F47_eq, F47_eq, F47_eq]
  simp only [Option.bind_some]
  cases inB p.1 1 64 <;> cases inB p.2.1 2 64 <;> rfl
theorem F52_eq (k : Nat) (p : den pace) : F52 k p.1 p.2.1 p.2.2 = some (okB p) := F46_eq k p

/-- are these paces that share a way -/
def okAll (l : List (den pace)) : Bool := inB (l.length : Nat) 1 5 && l.all okB
theorem F16_eq (k : Nat) (l : List (den pace)) (hl : l.length < 2 ^ 60) (hk : l.length < k) : F16 k l = some (okAll l) := by
  have := scanLoop l (fun n (_ : Unit) j => F16_l0 k l n j) (fun _ _ a => cond (okB a) (.inl ()) (.inr false)) (fun _ => inB (l.length : Nat) 1 5)
    (fun n s j h => by
      simp only [F16_l0]
      rw [atI_get l j h, F46_eq, up1 j (by omega)]
      simp [h]
      cases okB l[j] <;> rfl)
    (fun n s => by simp [F16_l0, F47_eq]) k () 0 (Nat.zero_le _) (by omega)
  rw [scan_all, List.drop_zero] at this
  unfold okAll
  rw [Bool.and_comm]
  exact this
theorem F80_eq (k : Nat) (l : List (den pace)) (hl : l.length < 2 ^ 60) (hk : l.length < k) : ∃ r, F80 k l = some r ∧ (!(decide (r ≥ 0))) = l.all okB := by
  have := scanLoop l (fun n (_ : Unit) j => F80_l0 k l n j) (fun _ j a => cond (okB a) (.inl ()) (.inr (j : Int))) (fun _ => -1)
    (fun n s j h => by
      simp only [F80_l0, F51]
      rw [atI_get l j h, F52_eq, up1 j (by omega)]
      simp [h]
      cases okB l[j] <;> rfl)
    (fun n s => by simp [F80_l0]) k () 0 (Nat.zero_le _) (by omega)
  rw [List.drop_zero] at this
  refine ⟨_, this, ?_⟩
  have : ∀ (r : List (den pace)) (j : Nat), (!(decide (scan (fun (_ : Unit) j a => cond (okB a) (.inl ()) (.inr (j : Int))) (fun _ => (-1 : Int)) () j r ≥ 0))) = r.all okB := by
    intro r
    induction r with
    | nil => intro j; rfl
    | cons a r ih =>
      intro j
      rw [scan, List.all_cons]
      cases okB a with
      | true => simpa using ih (j + 1)
      | false => simp
  exact this l 0
theorem F18_eq (k : Nat) (l : List (den pace)) (hl : l.length < 2 ^ 60) (hk : l.length < k) : F18 k l = some (okAll l) := by
  unfold F18 okAll
  rw [F49_eq, Option.bind_some]
  cases inB (l.length : Nat) 1 5 with
  | false => rfl
  | true =>
    obtain ⟨r, h1, h2⟩ := F80_eq k l hl hk
    simp only [cond_true, F50, h1, Option.bind_some, h2, Bool.true_and]
theorem F53_self (k : Nat) (p : den pace) : F53 k p.1 p.2.1 p.2.2 p.1 p.2.1 p.2.2 = some true := by simp [F53]
theorem F19_self (k : Nat) (l : List (den pace)) (hl : l.length < 2 ^ 60) (hk : l.length < k) : F19 k l l = some true := by
  have := foldLoop l (fun n (_ : Unit) j => F19_l0 k l l n j) (fun s _ => s) (fun _ => true)
    (fun n s j h => by
      simp only [F19_l0]
      rw [atI_get l j h, F53_self, up1 j (by omega)]
      simp [h])
    (fun n s => by simp [F19_l0]) k () 0 (Nat.zero_le _) (by omega)
  unfold F19
  simp only [bne_self_eq_false, cond_false]
  exact this
theorem F17_loop (k : Nat) (l : List (den pace)) (hl : l.length < 2 ^ 60) : ∀ (n j : Nat) (m : List (den pace)), j ≤ l.length → l.length - j < n → m.length = l.length → m.take j = l.take j → F17_l0 k l n (j : Int) m = some l
  | 0, j, m, _, h, _, _ => by omega
  | n + 1, j, m, hj, h, hm, ht => by
    rw [F17_l0]
    rcases Nat.lt_or_ge j l.length with hlt | hge
    · rw [up1 j (by omega), atI_get l j hlt, F48]
      simp only [Option.bind_some]
      rw [decide_eq_true (by omega : ((j : Nat) : Int) < (l.length : Nat)), decide_eq_true (by omega : (0 : Int) ≤ (j : Nat)), decide_eq_true (by omega : ((j : Nat) : Int) < (m.length : Nat))]
      simp only [cond_true]
      refine F17_loop k l hl n (j + 1) _ hlt (by omega) (by simpa using hm) ?_
      rw [Int.toNat_natCast, List.take_add_one, List.take_add_one]
      simp only [List.getElem?_set]
      rw [if_pos trivial, if_pos (by omega), List.getElem?_eq_getElem hlt]
      congr 1
      rw [List.take_set_of_le (Nat.le_refl _)]
      exact ht
    · rw [decide_eq_false (by omega : ¬ ((j : Nat) : Int) < (l.length : Nat))]
      simp only [cond_false]
      rw [List.take_of_length_le (by omega), List.take_of_length_le (by omega)] at ht
      rw [ht]
theorem F17_eq (k : Nat) (l : List (den pace)) (hl : l.length < 2 ^ 42) (hk : l.length < k) : F17 k l = some l := by
  unfold F17
  rw [decide_eq_true (by omega : (0 : Int) ≤ ((l.length : Nat) : Int)), decide_eq_true rfl, decide_eq_true (by omega : ((l.length : Nat) : Int) * (24 : Nat) ≤ 140737488355328)]
  exact F17_loop k l (by omega) k 0 _ (Nat.zero_le _) (by omega) (by simp) (by simp)
theorem F15_eq (k : Nat) (l : List (den pace)) (hl : l.length ≤ maxLen) : F15 k l 1048576 = some (if l.length ≤ 1048576 then 1048576 - (l.length : Int) else -1) := by
  unfold F15
  have hm : maxLen = 9223372036854775807 := rfl
  rw [hm] at hl
  rw [i64_in _ (by omega)]
  by_cases h : l.length ≤ 1048576
  · rw [decide_eq_false (by omega), if_pos h]; rfl
  · rw [decide_eq_true (by omega), if_neg h]; rfl

def sumW (s : Int) (l : List (den pace)) : Int := l.foldl (fun s p => IntKind.i64.wrap (s + p.1)) s
theorem F22_eq (k : Nat) (l : List (den pace)) (hl : l.length < 2 ^ 60) (hk : l.length < k) : F22 k l = some (cond (okAll l) (sumW 0 l) (-1)) := by
  have := foldLoop l (fun n (s : Int) j => F22_l0 k l n s j) (fun s p => IntKind.i64.wrap (s + p.1)) (fun s => s)
    (fun n s j h => by
      simp only [F22_l0]
      rw [atI_get l j h, up1 j (by omega)]
      simp [h])
    (fun n s => by simp [F22_l0]) k 0 0 (Nat.zero_le _) (by omega)
  unfold F22
  rw [F16_eq k l hl hk]
  simp only [Option.bind_some]
  cases okAll l with
  | false => rfl
  | true => exact this
theorem F54_eq (k : Nat) (l : List (den pace)) (hl : l.length < 2 ^ 60) (hk : l.length < k) : F54 k l = some (sumW 0 l) := by
  have := foldLoop l (fun n (s : Int) j => F54_l0 k l n s j) (fun s p => IntKind.i64.wrap (s + p.1)) (fun s => s)
    (fun n s j h => by
      simp only [F54_l0]
      rw [atI_get l j h, up1 j (by omega)]
      simp [h])
    (fun n s => by simp [F54_l0]) k 0 0 (Nat.zero_le _) (by omega)
  exact this
theorem F23_eq (k : Nat) (l : List (den pace)) (hl : l.length < 2 ^ 60) (hk : l.length < k) : F23 k l = some (cond (okAll l) (sumW 0 l) (-1)) := by
  unfold F23
  rw [F18_eq k l hl hk, F54_eq k l hl hk]
  cases okAll l <;> rfl
theorem F5_true (l : List (den pace)) (hl : l.length ≤ maxLen) : F5 (l.length + 1) l = some true := by
  unfold F5
  rw [F15_eq _ l hl, Option.bind_some]
  by_cases h : l.length ≤ 1048576
  · rw [if_pos h, decide_eq_false (by omega), cond_false, F17_eq _ l (by omega) (by omega)]
    simp only [Option.bind_some]
    rw [F22_eq _ l (by omega) (by omega), F23_eq _ l (by omega) (by omega), Option.bind_some, Option.bind_some, F19_self _ l (by omega) (by omega)]
    simp
  · rw [if_neg h]; rfl

def farG (s : Int × Int) (p : den pace) : Int × Int := (if p.1 < s.1 then p.1 else s.1, if s.2 < p.1 then p.1 else s.2)
theorem F20_loop (k : Nat) (l : List (den pace)) (hl : l.length < 2 ^ 60) : ∀ n s j, j ≤ l.length → l.length - j < n → F20_l0 k l n s.1 s.2 (j : Int) = some (IntKind.i64.wrap (((l.drop j).foldl farG s).2 - ((l.drop j).foldl farG s).1)) :=
  foldLoop l (fun n (s : Int × Int) j => F20_l0 k l n s.1 s.2 j) farG (fun s => IntKind.i64.wrap (s.2 - s.1))
    (fun n s j h => by
      simp only [F20_l0]
      rw [atI_get l j h, up1 j (by omega)]
      simp [h, farG])
    (fun n s => by simp [F20_l0])
theorem F21_loop (k : Nat) (l : List (den pace)) (hl : l.length < 2 ^ 60) : ∀ n s j, j ≤ l.length → l.length - j < n → F21_l0 k l n s.1 s.2 (j : Int) = some (IntKind.i64.wrap (((l.drop j).foldl farG s).2 - ((l.drop j).foldl farG s).1)) :=
  foldLoop l (fun n (s : Int × Int) j => F21_l0 k l n s.1 s.2 j) farG (fun s => IntKind.i64.wrap (s.2 - s.1))
    (fun n s j h => by
      simp only [F21_l0]
      rw [atI_get l j h, up1 j (by omega)]
      simp [h, farG])
    (fun n s => by simp [F21_l0])
theorem okB_win {p : den pace} (h : okB p = true) : @LE.le Int _ 1 p.1 ∧ @LE.le Int _ p.1 64 := by
  unfold okB inB at h
  simp only [Bool.and_eq_true, decide_eq_true_eq] at h
  exact h.1.1
theorem mn64 (x : Int) (h : x ≤ 64) : (if x < 64 then x else 64) = x := by split <;> omega
theorem mx0 (x : Int) (h : 1 ≤ x) : (if 0 < x then x else 0) = x := by split <;> omega
theorem far_eq (k : Nat) (l : List (den pace)) (hl : l.length < 2 ^ 60) (hk : l.length < k) : ∃ r, F20 k l = some r ∧ F21 k l = some r := by
  unfold F20 F21
  rw [F16_eq k l hl hk, F18_eq k l hl hk]
  simp only [Option.bind_some]
  cases hok : okAll l with
  | false => exact ⟨_, rfl, rfl⟩
  | true =>
    simp only [Bool.not_true, cond_false]
    have h1 := F20_loop k l hl k (64, 0) 0 (Nat.zero_le _) (by omega)
    have h2 := F21_loop k l hl k ((atI l 0).1, (atI l 0).1) 0 (Nat.zero_le _) (by omega)
    unfold okAll at hok
    rw [Bool.and_eq_true] at hok
    cases l with
    | nil => exact absurd hok.1 (by decide)
    | cons p r =>
      have hp : okB p = true := by have := hok.2; rw [List.all_cons, Bool.and_eq_true] at this; exact this.1
      obtain ⟨hp1, hp2⟩ := okB_win hp
      have e1 : farG (64, 0) p = (p.1, p.1) := by
        unfold farG
        simp only
        refine Prod.ext ?_ ?_
        · exact mn64 p.1 hp2
        · exact mx0 p.1 hp1
      have e2 : farG (p.1, p.1) p = (p.1, p.1) := by
        unfold farG
        refine Prod.ext ?_ ?_ <;> simp only <;> split <;> rfl
      have h0 : (atI (p :: r) 0).1 = p.1 := rfl
      rw [h0] at h2 ⊢
      simp only [List.drop_zero, List.foldl_cons, e1, e2] at h1 h2
      rw [decide_eq_true (by simp : (0 : Int) < (((p :: r).length : Nat) : Int))]
      exact ⟨_, h1, h2⟩
theorem F4_true (l : List (den pace)) (hl : l.length ≤ maxLen) : F4 (l.length + 1) l = some true := by
  unfold F4
  rw [F15_eq _ l hl, Option.bind_some]
  by_cases h : l.length ≤ 1048576
  · rw [if_pos h, decide_eq_false (by omega), cond_false, F17_eq _ l (by omega) (by omega)]
    simp only [Option.bind_some]
    obtain ⟨r, h1, h2⟩ := far_eq (l.length + 1) l (by omega) (by omega)
    rw [h1, h2, Option.bind_some, Option.bind_some, F19_self _ l (by omega) (by omega)]
    simp
  · rw [if_neg h]; rfl
theorem pure4 (l : List (den pace)) (hw : Wf (.sl pace) l) (_ : l.length * 24 ≤ 140737488351232) :
    ∃ k, (∀ l, Contract Try.prog 4 [.one (.l (.s .ro pace l))] ⟨F4 k l, fun r => (.one (.v (.bool r)), [])⟩) ∧ F4 k l = some true :=
  ⟨l.length + 1, fun l => F4_con _ l, F4_true l hw.1⟩
theorem pure5 (l : List (den pace)) (hw : Wf (.sl pace) l) (_ : l.length * 24 ≤ 140737488351232) :
    ∃ k, (∀ l, Contract Try.prog 5 [.one (.l (.s .ro pace l))] ⟨F5 k l, fun r => (.one (.v (.bool r)), [])⟩) ∧ F5 k l = some true :=
  ⟨l.length + 1, fun l => F5_con _ l, F5_true l hw.1⟩
end Go.Proofs.Ytkbaaipnjbcnlaa.Gn
end
