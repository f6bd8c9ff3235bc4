/-
  The functions that the laws reach, as plain Lean functions, and their contracts. (A part of the proofs of this seat.)
-/
import Derived.Test.YtkbaaipnjbcnlaaChecked
import Derived.Test.YtkbaaipnjbcnlaaRc
import Derived.KernelRfl

section
set_option linter.unusedVariables false
set_option linter.unusedSimpArgs false
/-
  The functions that the laws over paces reach, as plain functions (printed by rfgen.py).
-/
namespace Go.Proofs.Ytkbaaipnjbcnlaa.Gn
open Go.Rf
abbrev pace : Ty := (.pair (.int .i64) (.pair (.int .i64) (.int .i64)))
def tyT : List (Nat × TyI) := [(3, ⟨(.int .i64), false, 0⟩), (4, ⟨.bool, false, 0⟩), (5, ⟨(.int .u8), false, 0⟩), (22, ⟨(.sl pace), false, 24⟩), (25, ⟨(.sl pace), false, 24⟩), (30, ⟨(.sl (.int .u8)), false, 1⟩), (33, ⟨pace, true, 0⟩), (61, ⟨pace, true, 0⟩), (91, ⟨(.pair (.sl (.int .u8)) (.int .i64)), true, 0⟩)]
def fldT : FldT := [(33, [(0, 1, false), (1, 1, false), (2, 1, false)]), (61, [(0, 1, false), (1, 1, false), (2, 1, false)]), (91, [(0, 1, false), (1, 1, false)])]
def eqT : List Nat := [33]
def env (tab : Tab) (hint : Nat → Hint) (rm : Rf.Mode) (pins : List (Bool × Nat)) (k : Nat) : Env :=
  { tab := tab, lend := (fun f => cond (Nat.beq f 86) [true] ([])), lent := (fun f => cond (Nat.beq f 31) [true] ([])), pins := pins, ty := asc tyT, fld := fldOf fldT, pw := fun _ => none, cw := fun _ => [], hint := hint, eqt := hasK eqT, rm := rm, fuel := k }
theorem tyOk : AllT (TyOk Try.prog) tyT :=
  ⟨.ofInt (b := 8) (by kernel_rfl) (by kernel_rfl), .ofBool (b := 1) (by kernel_rfl) (by kernel_rfl), .ofInt (b := 1) (by kernel_rfl) (by kernel_rfl), .ofSl (te := 61) (b := 24) (by kernel_rfl) (by kernel_rfl) (by kernel_rfl), .ofSl (te := 33) (b := 24) (by kernel_rfl) (by kernel_rfl) (by kernel_rfl), .ofSl (te := 5) (b := 24) (by kernel_rfl) (by kernel_rfl) (by kernel_rfl), .ofAgg (b := 24) (by kernel_rfl) (by kernel_rfl), .ofAgg (b := 24) (by kernel_rfl) (by kernel_rfl), .ofAgg (b := 32) (by kernel_rfl) (by kernel_rfl), trivial⟩
theorem fldOk : AllF Try.prog fldT :=
  ⟨⟨⟨by kernel_rfl, by kernel_rfl⟩, ⟨by kernel_rfl, by kernel_rfl⟩, ⟨by kernel_rfl, by kernel_rfl⟩, trivial⟩, ⟨⟨by kernel_rfl, by kernel_rfl⟩, ⟨by kernel_rfl, by kernel_rfl⟩, ⟨by kernel_rfl, by kernel_rfl⟩, trivial⟩, ⟨⟨by kernel_rfl, by kernel_rfl⟩, ⟨by kernel_rfl, by kernel_rfl⟩, trivial⟩, trivial⟩
theorem mixed : Try.prog.follows .mixedOrders = true := by kernel_rfl
theorem bldOk : AllT (fun t i => i.agg = true → BldOk Try.prog t (fldOf fldT t)) tyT :=
  ⟨nofun, nofun, nofun, nofun, nofun, nofun, fun _ => bld_of (row := [(0, 1, false), (1, 1, false), (2, 1, false)]) rfl (by kernel_rfl) (by kernel_rfl), fun _ => bld_of (row := [(0, 1, false), (1, 1, false), (2, 1, false)]) rfl (by kernel_rfl) (by kernel_rfl), fun _ => bld_of (row := [(0, 1, false), (1, 1, false)]) rfl (by kernel_rfl) (by kernel_rfl), trivial⟩
theorem eqOkT : AllT (fun t i => hasK eqT t = true → EqOk Try.prog t i.ty) tyT :=
  ⟨fun h => absurd h (by decide), fun h => absurd h (by decide), fun h => absurd h (by decide), fun h => absurd h (by decide), fun h => absurd h (by decide), fun h => absurd h (by decide), fun _ => EqOk.of (n := 8) (by decide) (by kernel_rfl) (by kernel_rfl) (by kernel_rfl) (by kernel_rfl) (by kernel_rfl), fun h => absurd h (by decide), fun h => absurd h (by decide), trivial⟩
theorem tysOk (tab : Tab) (hint : Nat → Hint) (rm : Rf.Mode) (pins : List (Bool × Nat)) (k : Nat) : TysOk Try.prog (env tab hint rm pins k) :=
  ⟨fun t i h => tyOk.get h, fun s f z h => fldOk.get h, fun t i h => bldOk.get h, fun t i h h2 => eqOkT.get h2 h⟩
theorem envOk {tab : Tab} (h : TabFn Try.prog tab) (hint : Nat → Hint) (rm : Rf.Mode) (pins : List (Bool × Nat)) (k : Nat) : EnvOk Try.prog (env tab hint rm pins k) := EnvOk.of (tysOk tab hint rm pins k) h
def noTab : Tab := fun _ _ => none
def noHint : Nat → Hint := fun _ => ⟨[], []⟩
/-! 15: loop.example/netstack/laws.szPaceS -/
abbrev F15_E (k : Nat) : Env := env noTab noHint .own [] k
def F15 (k : Nat) (a0 : List (den pace)) (a1 : Int) : Option (Int) :=
  cond (decide ((IntKind.i64.wrap (a1 - ((a0.length : Nat) : Int))) < 0))
    (some (-1))
    (some (IntKind.i64.wrap (a1 - ((a0.length : Nat) : Int))))
theorem F15_st {β : Type} (k : Nat) (a0 : List (den pace)) (a1 : Int) (K : A × List (List Leaf) → Option β) : evalF (F15_E k) Try.f15 [.one (.l (.s .ro pace a0)), .one (.l (.v (.int .i64 a1)))] K =
    cond (decide ((IntKind.i64.wrap (a1 - ((a0.length : Nat) : Int))) < 0))
      (K (.one (.v (.int .i64 (-1))), []))
      (K (.one (.v (.int .i64 (IntKind.i64.wrap (a1 - ((a0.length : Nat) : Int))))), [])) := by kernel_rfl
theorem F15_ev {β : Type} (k : Nat) (a0 : List (den pace)) (a1 : Int) (K : A × List (List Leaf) → Option β) : evalF (F15_E k) Try.f15 [.one (.l (.s .ro pace a0)), .one (.l (.v (.int .i64 a1)))] K = (F15 k a0 a1).bind fun r => K (.one (.v (.int .i64 r)), []) := by
  rw [F15_st, F15]
  simp only [bind_cond, Option.bind_assoc, Option.bind_some, Option.bind_none, Option.bind_fun_some]
theorem F15_con (k : Nat) (a0 : List (den pace)) (a1 : Int) : Contract Try.prog 15 [.one (.l (.s .ro pace a0)), .one (.l (.v (.int .i64 a1)))] ⟨F15 k a0 a1, fun r => (.one (.v (.int .i64 r)), [])⟩ :=
  con_of (envOk .none _ _ _ _) mixed Try.func15 rfl rfl (F15_ev k a0 a1 some)
/-! 48: loop.example/netstack/laws.toPace -/
abbrev F48_E (k : Nat) : Env := env noTab noHint .own [] k
def F48 (k : Nat) (a0_0 : Int) (a0_1 : Int) (a0_2 : Int) : Option (Int × Int × Int) :=
  some (a0_0, a0_1, a0_2)
theorem F48_st {β : Type} (k : Nat) (a0_0 : Int) (a0_1 : Int) (a0_2 : Int) (K : A × List (List Leaf) → Option β) : evalF (F48_E k) Try.f48 [.agg [.l (.v (.int .i64 a0_0)), .l (.v (.int .i64 a0_1)), .l (.v (.int .i64 a0_2))]] K =
    K (.agg [.v (.int .i64 a0_0), .v (.int .i64 a0_1), .v (.int .i64 a0_2)], []) := by kernel_rfl
theorem F48_ev {β : Type} (k : Nat) (a0_0 : Int) (a0_1 : Int) (a0_2 : Int) (K : A × List (List Leaf) → Option β) : evalF (F48_E k) Try.f48 [.agg [.l (.v (.int .i64 a0_0)), .l (.v (.int .i64 a0_1)), .l (.v (.int .i64 a0_2))]] K = (F48 k a0_0 a0_1 a0_2).bind fun r => K (.agg [.v (.int .i64 r.1), .v (.int .i64 r.2.1), .v (.int .i64 r.2.2)], []) := by
  rw [F48_st, F48]
  simp only [bind_cond, Option.bind_assoc, Option.bind_some, Option.bind_none, Option.bind_fun_some]
theorem F48_con (k : Nat) (a0_0 : Int) (a0_1 : Int) (a0_2 : Int) : Contract Try.prog 48 [.agg [.l (.v (.int .i64 a0_0)), .l (.v (.int .i64 a0_1)), .l (.v (.int .i64 a0_2))]] ⟨F48 k a0_0 a0_1 a0_2, fun r => (.agg [.v (.int .i64 r.1), .v (.int .i64 r.2.1), .v (.int .i64 r.2.2)], [])⟩ :=
  con_of (envOk .none _ _ _ _) mixed Try.func48 rfl rfl (F48_ev k a0_0 a0_1 a0_2 some)
/-! 17: loop.example/netstack/laws.toPaceS -/
def F17_h : Nat → Hint
  | 0 => ⟨[(0, .plain), (3, .plain), (4, .plain)], [(7000, .plain)]⟩
  | _ => ⟨[], []⟩
def F17_t (k : Nat) : Tab
  | 48, [.agg [.l (.v (.int .i64 a0_0)), .l (.v (.int .i64 a0_1)), .l (.v (.int .i64 a0_2))]] => some ⟨F48 k a0_0 a0_1 a0_2, fun r => (.agg [.v (.int .i64 r.1), .v (.int .i64 r.2.1), .v (.int .i64 r.2.2)], [])⟩
  | _, _ => none
abbrev F17_E (k : Nat) : Env := env (F17_t k) F17_h .own [] k
def F17_s0 (a0 : List (den pace)) (x4_0 : Int) (m7000_0 : List (den pace)) : St := ⟨[.one (.s .ro pace a0), .one .d, .one .d, .one (.a (.cell 7000) 0 0 none), .one (.v (.int .i64 x4_0)), .one .d, .one .d, .one .d, .one .d, .one .d, .one .d, .one .d, .one .d, .one .d, .one .d, .one .d, .one .d, .one .d, .one .d, .one .d, .one .d, .one .d, .one .d], [(7000, ⟨.s .own pace m7000_0, 0, 0⟩)]⟩
def F17_l0 (k : Nat) (a0 : List (den pace)) : Nat → Int → List (den pace) → Option (List (den pace))
  | 0, _, _ => none
  | n + 1, x4_0, m7000_0 =>
    cond (decide (x4_0 < ((a0.length : Nat) : Int)))
      (cond (decide (0 ≤ x4_0))
        (cond (decide (x4_0 < ((a0.length : Nat) : Int)))
          ((F48 k ((atI a0 x4_0).1) (((atI a0 x4_0).2).1) (((atI a0 x4_0).2).2)).bind fun b1 =>
            cond (decide (0 ≤ x4_0))
              (cond (decide (x4_0 < ((m7000_0.length : Nat) : Int)))
                (F17_l0 k a0 n (IntKind.i64.wrap (x4_0 + 1)) (m7000_0.set x4_0.toNat b1))
                (none))
              (none))
          (none))
        (none))
      (some m7000_0)
theorem F17_l0_rd {β : Type} (k n : Nat) (a0 : List (den pace)) (x4_0 : Int) (m7000_0 : List (den pace)) (K : A × List (List Leaf) → Option β) :
    loopG (F17_E k) Try.f17 [1, 1, 0, 1, 0] 0 (kontAt (F17_E k) [1, 1, 0, 1, 0] (bodyOf Try.f17) 0 (endC (F17_E k) Try.f17 [.one (.l (.s .ro pace a0))] K)) (n + 1) (F17_s0 a0 x4_0 m7000_0) =
    cond (decide (x4_0 < ((a0.length : Nat) : Int)))
      (cond (decide (0 ≤ x4_0))
        (cond (decide (x4_0 < ((a0.length : Nat) : Int)))
          ((F48 k ((atI a0 x4_0).1) (((atI a0 x4_0).2).1) (((atI a0 x4_0).2).2)).bind fun b1 =>
            cond (decide (0 ≤ x4_0))
              (cond (decide (x4_0 < ((m7000_0.length : Nat) : Int)))
                (loopG (F17_E k) Try.f17 [1, 1, 0, 1, 0] 0 (kontAt (F17_E k) [1, 1, 0, 1, 0] (bodyOf Try.f17) 0 (endC (F17_E k) Try.f17 [.one (.l (.s .ro pace a0))] K)) n (F17_s0 a0 (IntKind.i64.wrap (x4_0 + 1)) (m7000_0.set x4_0.toNat b1)))
                (none))
              (none))
          (none))
        (none))
      (K (.one (.s .own pace m7000_0), [])) := by kernel_rfl
theorem F17_l0_lp {β : Type} (k : Nat) (a0 : List (den pace)) (K : A × List (List Leaf) → Option β) (n : Nat) : ∀ (x4_0 : Int) (m7000_0 : List (den pace)), loopG (F17_E k) Try.f17 [1, 1, 0, 1, 0] 0 (kontAt (F17_E k) [1, 1, 0, 1, 0] (bodyOf Try.f17) 0 (endC (F17_E k) Try.f17 [.one (.l (.s .ro pace a0))] K)) n (F17_s0 a0 x4_0 m7000_0) =
    (F17_l0 k a0 n x4_0 m7000_0).bind fun r => K (.one (.s .own pace r), []) := by
  induction n with
  | zero => intros; rfl
  | succ n ih =>
    intros
    rw [F17_l0_rd, F17_l0]
    simp only [bind_cond, Option.bind_assoc, Option.bind_some, Option.bind_none, Option.bind_fun_some, ih]
def F17 (k : Nat) (a0 : List (den pace)) : Option (List (den pace)) :=
  cond ((decide (0 ≤ ((a0.length : Nat) : Int)) && decide (((a0.length : Nat) : Int) = ((a0.length : Nat) : Int)) && decide (((a0.length : Nat) : Int) * (24 : Nat) ≤ 140737488355328)))
    (F17_l0 k a0 k 0 (List.replicate (((a0.length : Nat) : Int).toNat) (dflt pace)))
    (none)
theorem F17_st {β : Type} (k : Nat) (a0 : List (den pace)) (K : A × List (List Leaf) → Option β) : evalF (F17_E k) Try.f17 [.one (.l (.s .ro pace a0))] K =
    cond ((decide (0 ≤ ((a0.length : Nat) : Int)) && decide (((a0.length : Nat) : Int) = ((a0.length : Nat) : Int)) && decide (((a0.length : Nat) : Int) * (24 : Nat) ≤ 140737488355328)))
      (loopG (F17_E k) Try.f17 [1, 1, 0, 1, 0] 0 (kontAt (F17_E k) [1, 1, 0, 1, 0] (bodyOf Try.f17) 0 (endC (F17_E k) Try.f17 [.one (.l (.s .ro pace a0))] K)) k (F17_s0 a0 0 (List.replicate (((a0.length : Nat) : Int).toNat) (dflt pace))))
      (none) := by kernel_rfl
theorem F17_ev {β : Type} (k : Nat) (a0 : List (den pace)) (K : A × List (List Leaf) → Option β) : evalF (F17_E k) Try.f17 [.one (.l (.s .ro pace a0))] K = (F17 k a0).bind fun r => K (.one (.s .own pace r), []) := by
  rw [F17_st, F17]
  simp only [bind_cond, Option.bind_assoc, Option.bind_some, Option.bind_none, Option.bind_fun_some, F17_l0_lp]
theorem F17_tOk (k : Nat) : TabFn Try.prog (F17_t k) := by
  constructor <;> intro f xs cr h <;> unfold F17_t at h <;> split at h <;> first | (simp only [Option.some.injEq] at h; subst h) | (simp at h; done)
  · exact F48_con _ _ _ _
  · exact .of (by kernel_rfl)
theorem F17_con (k : Nat) (a0 : List (den pace)) : Contract Try.prog 17 [.one (.l (.s .ro pace a0))] ⟨F17 k a0, fun r => (.one (.s .own pace r), [])⟩ :=
  con_of (envOk (F17_tOk k) _ _ _ _) mixed Try.func17 rfl rfl (F17_ev k a0 some)
/-! 47: loop.example/netstack/spec.l1In -/
abbrev F47_E (k : Nat) : Env := env noTab noHint .own [] k
def F47 (k : Nat) (a0 : Int) (a1 : Int) (a2 : Int) : Option (Bool) :=
  cond (decide (a0 ≥ a1))
    (some (decide (a0 ≤ a2)))
    (some false)
theorem F47_st {β : Type} (k : Nat) (a0 : Int) (a1 : Int) (a2 : Int) (K : A × List (List Leaf) → Option β) : evalF (F47_E k) Try.f47 [.one (.l (.v (.int .i64 a0))), .one (.l (.v (.int .i64 a1))), .one (.l (.v (.int .i64 a2)))] K =
    cond (decide (a0 ≥ a1))
      (K (.one (.v (.bool (decide (a0 ≤ a2)))), []))
      (K (.one (.v (.bool false)), [])) := by kernel_rfl
theorem F47_ev {β : Type} (k : Nat) (a0 : Int) (a1 : Int) (a2 : Int) (K : A × List (List Leaf) → Option β) : evalF (F47_E k) Try.f47 [.one (.l (.v (.int .i64 a0))), .one (.l (.v (.int .i64 a1))), .one (.l (.v (.int .i64 a2)))] K = (F47 k a0 a1 a2).bind fun r => K (.one (.v (.bool r)), []) := by
  rw [F47_st, F47]
  simp only [bind_cond, Option.bind_assoc, Option.bind_some, Option.bind_none, Option.bind_fun_some]
theorem F47_con (k : Nat) (a0 : Int) (a1 : Int) (a2 : Int) : Contract Try.prog 47 [.one (.l (.v (.int .i64 a0))), .one (.l (.v (.int .i64 a1))), .one (.l (.v (.int .i64 a2)))] ⟨F47 k a0 a1 a2, fun r => (.one (.v (.bool r)), [])⟩ :=
  con_of (envOk .none _ _ _ _) mixed Try.func47 rfl rfl (F47_ev k a0 a1 a2 some)
/-! 46: loop.example/netstack/spec.PaceOk -/
def F46_t (k : Nat) : Tab
  | 47, [.one (.l (.v (.int .i64 a0))), .one (.l (.v (.int .i64 a1))), .one (.l (.v (.int .i64 a2)))] => some ⟨F47 k a0 a1 a2, fun r => (.one (.v (.bool r)), [])⟩
  | _, _ => none
abbrev F46_E (k : Nat) : Env := env (F46_t k) noHint .own [] k
def F46 (k : Nat) (a0_0 : Int) (a0_1 : Int) (a0_2 : Int) : Option (Bool) :=
  (F47 k a0_0 1 64).bind fun b1 =>
    cond (b1)
      ((F47 k a0_1 2 64).bind fun b2 =>
        cond (b2)
          ((F47 k a0_2 0 (IntKind.i64.wrap (a0_0 - 1))).bind fun b3 =>
            some b3)
          (some false))
      (some false)
theorem F46_st {β : Type} (k : Nat) (a0_0 : Int) (a0_1 : Int) (a0_2 : Int) (K : A × List (List Leaf) → Option β) : evalF (F46_E k) Try.f46 [.agg [.l (.v (.int .i64 a0_0)), .l (.v (.int .i64 a0_1)), .l (.v (.int .i64 a0_2))]] K =
    (F47 k a0_0 1 64).bind fun b1 =>
      cond (b1)
        ((F47 k a0_1 2 64).bind fun b2 =>
          cond (b2)
            ((F47 k a0_2 0 (IntKind.i64.wrap (a0_0 - 1))).bind fun b3 =>
              K (.one (.v (.bool b3)), []))
            (K (.one (.v (.bool false)), [])))
        (K (.one (.v (.bool false)), [])) := by kernel_rfl
theorem F46_ev {β : Type} (k : Nat) (a0_0 : Int) (a0_1 : Int) (a0_2 : Int) (K : A × List (List Leaf) → Option β) : evalF (F46_E k) Try.f46 [.agg [.l (.v (.int .i64 a0_0)), .l (.v (.int .i64 a0_1)), .l (.v (.int .i64 a0_2))]] K = (F46 k a0_0 a0_1 a0_2).bind fun r => K (.one (.v (.bool r)), []) := by
  rw [F46_st, F46]
  simp only [bind_cond, Option.bind_assoc, Option.bind_some, Option.bind_none, Option.bind_fun_some]
theorem F46_tOk (k : Nat) : TabFn Try.prog (F46_t k) := by
  constructor <;> intro f xs cr h <;> unfold F46_t at h <;> split at h <;> first | (simp only [Option.some.injEq] at h; subst h) | (simp at h; done)
  · exact F47_con _ _ _ _
  · exact .of (by kernel_rfl)
theorem F46_con (k : Nat) (a0_0 : Int) (a0_1 : Int) (a0_2 : Int) : Contract Try.prog 46 [.agg [.l (.v (.int .i64 a0_0)), .l (.v (.int .i64 a0_1)), .l (.v (.int .i64 a0_2))]] ⟨F46 k a0_0 a0_1 a0_2, fun r => (.one (.v (.bool r)), [])⟩ :=
  con_of (envOk (F46_tOk k) _ _ _ _) mixed Try.func46 rfl rfl (F46_ev k a0_0 a0_1 a0_2 some)
/-! 16: loop.example/netstack/spec.SharedOk -/
def F16_h : Nat → Hint
  | 0 => ⟨[(0, .plain), (3, .plain)], []⟩
  | _ => ⟨[], []⟩
def F16_t (k : Nat) : Tab
  | 46, [.agg [.l (.v (.int .i64 a0_0)), .l (.v (.int .i64 a0_1)), .l (.v (.int .i64 a0_2))]] => some ⟨F46 k a0_0 a0_1 a0_2, fun r => (.one (.v (.bool r)), [])⟩
  | 47, [.one (.l (.v (.int .i64 a0))), .one (.l (.v (.int .i64 a1))), .one (.l (.v (.int .i64 a2)))] => some ⟨F47 k a0 a1 a2, fun r => (.one (.v (.bool r)), [])⟩
  | _, _ => none
abbrev F16_E (k : Nat) : Env := env (F16_t k) F16_h .own [] k
def F16_s0 (a0 : List (den pace)) (x3_0 : Int) : St := ⟨[.one (.s .ro pace a0), .one .d, .one .d, .one (.v (.int .i64 x3_0)), .one .d, .one .d, .one .d, .one .d, .one .d, .one .d, .one .d, .one .d, .one .d, .one .d, .one .d, .one .d, .one .d, .one .d, .one .d], []⟩
def F16_l0 (k : Nat) (a0 : List (den pace)) : Nat → Int → Option (Bool)
  | 0, _ => none
  | n + 1, x3_0 =>
    cond (decide (x3_0 < ((a0.length : Nat) : Int)))
      (cond (decide (0 ≤ x3_0))
        (cond (decide (x3_0 < ((a0.length : Nat) : Int)))
          ((F46 k ((atI a0 x3_0).1) (((atI a0 x3_0).2).1) (((atI a0 x3_0).2).2)).bind fun b1 =>
            cond ((!b1))
              (some false)
              (F16_l0 k a0 n (IntKind.i64.wrap (x3_0 + 1))))
          (none))
        (none))
      ((F47 k ((a0.length : Nat) : Int) 1 5).bind fun b2 =>
        some b2)
theorem F16_l0_rd {β : Type} (k n : Nat) (a0 : List (den pace)) (x3_0 : Int) (K : A × List (List Leaf) → Option β) :
    loopG (F16_E k) Try.f16 [1, 0, 1, 0] 0 (kontAt (F16_E k) [1, 0, 1, 0] (bodyOf Try.f16) 0 (endC (F16_E k) Try.f16 [.one (.l (.s .ro pace a0))] K)) (n + 1) (F16_s0 a0 x3_0) =
    cond (decide (x3_0 < ((a0.length : Nat) : Int)))
      (cond (decide (0 ≤ x3_0))
        (cond (decide (x3_0 < ((a0.length : Nat) : Int)))
          ((F46 k ((atI a0 x3_0).1) (((atI a0 x3_0).2).1) (((atI a0 x3_0).2).2)).bind fun b1 =>
            cond ((!b1))
              (K (.one (.v (.bool false)), []))
              (loopG (F16_E k) Try.f16 [1, 0, 1, 0] 0 (kontAt (F16_E k) [1, 0, 1, 0] (bodyOf Try.f16) 0 (endC (F16_E k) Try.f16 [.one (.l (.s .ro pace a0))] K)) n (F16_s0 a0 (IntKind.i64.wrap (x3_0 + 1)))))
          (none))
        (none))
      ((F47 k ((a0.length : Nat) : Int) 1 5).bind fun b2 =>
        K (.one (.v (.bool b2)), [])) := by kernel_rfl
theorem F16_l0_lp {β : Type} (k : Nat) (a0 : List (den pace)) (K : A × List (List Leaf) → Option β) (n : Nat) : ∀ (x3_0 : Int), loopG (F16_E k) Try.f16 [1, 0, 1, 0] 0 (kontAt (F16_E k) [1, 0, 1, 0] (bodyOf Try.f16) 0 (endC (F16_E k) Try.f16 [.one (.l (.s .ro pace a0))] K)) n (F16_s0 a0 x3_0) =
    (F16_l0 k a0 n x3_0).bind fun r => K (.one (.v (.bool r)), []) := by
  induction n with
  | zero => intros; rfl
  | succ n ih =>
    intros
    rw [F16_l0_rd, F16_l0]
    simp only [bind_cond, Option.bind_assoc, Option.bind_some, Option.bind_none, Option.bind_fun_some, ih]
def F16 (k : Nat) (a0 : List (den pace)) : Option (Bool) :=
  F16_l0 k a0 k 0
theorem F16_st {β : Type} (k : Nat) (a0 : List (den pace)) (K : A × List (List Leaf) → Option β) : evalF (F16_E k) Try.f16 [.one (.l (.s .ro pace a0))] K =
    loopG (F16_E k) Try.f16 [1, 0, 1, 0] 0 (kontAt (F16_E k) [1, 0, 1, 0] (bodyOf Try.f16) 0 (endC (F16_E k) Try.f16 [.one (.l (.s .ro pace a0))] K)) k (F16_s0 a0 0) := by kernel_rfl
theorem F16_ev {β : Type} (k : Nat) (a0 : List (den pace)) (K : A × List (List Leaf) → Option β) : evalF (F16_E k) Try.f16 [.one (.l (.s .ro pace a0))] K = (F16 k a0).bind fun r => K (.one (.v (.bool r)), []) := by
  rw [F16_st, F16]
  simp only [bind_cond, Option.bind_assoc, Option.bind_some, Option.bind_none, Option.bind_fun_some, F16_l0_lp]
theorem F16_tOk (k : Nat) : TabFn Try.prog (F16_t k) := by
  constructor <;> intro f xs cr h <;> unfold F16_t at h <;> split at h <;> first | (simp only [Option.some.injEq] at h; subst h) | (simp at h; done)
  · exact F46_con _ _ _ _
  · exact F47_con _ _ _ _
  · exact .of (by kernel_rfl)
  · exact .of (by kernel_rfl)
theorem F16_con (k : Nat) (a0 : List (den pace)) : Contract Try.prog 16 [.one (.l (.s .ro pace a0))] ⟨F16 k a0, fun r => (.one (.v (.bool r)), [])⟩ :=
  con_of (envOk (F16_tOk k) _ _ _ _) mixed Try.func16 rfl rfl (F16_ev k a0 some)
/-! 20: loop.example/netstack/spec.SharedFar -/
def F20_h : Nat → Hint
  | 0 => ⟨[(0, .plain), (3, .plain), (4, .plain), (5, .plain)], []⟩
  | _ => ⟨[], []⟩
def F20_t (k : Nat) : Tab
  | 16, [.one (.l (.s .ro (.pair (.int .i64) (.pair (.int .i64) (.int .i64))) a0))] => some ⟨F16 k a0, fun r => (.one (.v (.bool r)), [])⟩
  | _, _ => none
abbrev F20_E (k : Nat) : Env := env (F20_t k) F20_h .own [] k
def F20_s0 (a0 : List (den pace)) (x3_0 : Int) (x4_0 : Int) (x5_0 : Int) : St := ⟨[.one (.s .ro pace a0), .one .d, .one .d, .one (.v (.int .i64 x3_0)), .one (.v (.int .i64 x4_0)), .one (.v (.int .i64 x5_0)), .one .d, .one .d, .one .d, .one .d, .one .d, .one .d, .one .d, .one .d, .one .d, .one .d, .one .d, .one .d, .one .d, .one .d, .one .d, .one .d, .one .d, .one .d, .one .d, .one .d, .one .d, .one .d, .one .d, .one .d, .one .d, .one .d], []⟩
def F20_l0 (k : Nat) (a0 : List (den pace)) : Nat → Int → Int → Int → Option (Int)
  | 0, _, _, _ => none
  | n + 1, x3_0, x4_0, x5_0 =>
    cond (decide (x5_0 < ((a0.length : Nat) : Int)))
      (cond (decide (0 ≤ x5_0))
        (cond (decide (x5_0 < ((a0.length : Nat) : Int)))
          (cond (decide (0 ≤ x5_0))
            (cond (decide (x5_0 < ((a0.length : Nat) : Int)))
              (F20_l0 k a0 n (if ((atI a0 x5_0).1) < x3_0 then (atI a0 x5_0).1 else x3_0) (if x4_0 < ((atI a0 x5_0).1) then (atI a0 x5_0).1 else x4_0) (IntKind.i64.wrap (x5_0 + 1)))
              (none))
            (none))
          (none))
        (none))
      (some (IntKind.i64.wrap (x4_0 - x3_0)))
theorem F20_l0_rd {β : Type} (k n : Nat) (a0 : List (den pace)) (x3_0 : Int) (x4_0 : Int) (x5_0 : Int) (K : A × List (List Leaf) → Option β) :
    loopG (F20_E k) Try.f20 [1, 1, 1, 0, 1, 0] 0 (kontAt (F20_E k) [1, 1, 1, 0, 1, 0] (bodyOf Try.f20) 0 (endC (F20_E k) Try.f20 [.one (.l (.s .ro pace a0))] K)) (n + 1) (F20_s0 a0 x3_0 x4_0 x5_0) =
    cond (decide (x5_0 < ((a0.length : Nat) : Int)))
      (cond (decide (0 ≤ x5_0))
        (cond (decide (x5_0 < ((a0.length : Nat) : Int)))
          (cond (decide (0 ≤ x5_0))
            (cond (decide (x5_0 < ((a0.length : Nat) : Int)))
              (loopG (F20_E k) Try.f20 [1, 1, 1, 0, 1, 0] 0 (kontAt (F20_E k) [1, 1, 1, 0, 1, 0] (bodyOf Try.f20) 0 (endC (F20_E k) Try.f20 [.one (.l (.s .ro pace a0))] K)) n (F20_s0 a0 (if ((atI a0 x5_0).1) < x3_0 then (atI a0 x5_0).1 else x3_0) (if x4_0 < ((atI a0 x5_0).1) then (atI a0 x5_0).1 else x4_0) (IntKind.i64.wrap (x5_0 + 1))))
              (none))
            (none))
          (none))
        (none))
      (K (.one (.v (.int .i64 (IntKind.i64.wrap (x4_0 - x3_0)))), [])) := by kernel_rfl
theorem F20_l0_lp {β : Type} (k : Nat) (a0 : List (den pace)) (K : A × List (List Leaf) → Option β) (n : Nat) : ∀ (x3_0 : Int) (x4_0 : Int) (x5_0 : Int), loopG (F20_E k) Try.f20 [1, 1, 1, 0, 1, 0] 0 (kontAt (F20_E k) [1, 1, 1, 0, 1, 0] (bodyOf Try.f20) 0 (endC (F20_E k) Try.f20 [.one (.l (.s .ro pace a0))] K)) n (F20_s0 a0 x3_0 x4_0 x5_0) =
    (F20_l0 k a0 n x3_0 x4_0 x5_0).bind fun r => K (.one (.v (.int .i64 r)), []) := by
  induction n with
  | zero => intros; rfl
  | succ n ih =>
    intros
    rw [F20_l0_rd, F20_l0]
    simp only [bind_cond, Option.bind_assoc, Option.bind_some, Option.bind_none, Option.bind_fun_some, ih]
def F20 (k : Nat) (a0 : List (den pace)) : Option (Int) :=
  (F16 k a0).bind fun b1 =>
    cond ((!b1))
      (some (-1))
      (F20_l0 k a0 k 64 0 0)
theorem F20_st {β : Type} (k : Nat) (a0 : List (den pace)) (K : A × List (List Leaf) → Option β) : evalF (F20_E k) Try.f20 [.one (.l (.s .ro pace a0))] K =
    (F16 k a0).bind fun b1 =>
      cond ((!b1))
        (K (.one (.v (.int .i64 (-1))), []))
        (loopG (F20_E k) Try.f20 [1, 1, 1, 0, 1, 0] 0 (kontAt (F20_E k) [1, 1, 1, 0, 1, 0] (bodyOf Try.f20) 0 (endC (F20_E k) Try.f20 [.one (.l (.s .ro pace a0))] K)) k (F20_s0 a0 64 0 0)) := by kernel_rfl
theorem F20_ev {β : Type} (k : Nat) (a0 : List (den pace)) (K : A × List (List Leaf) → Option β) : evalF (F20_E k) Try.f20 [.one (.l (.s .ro pace a0))] K = (F20 k a0).bind fun r => K (.one (.v (.int .i64 r)), []) := by
  rw [F20_st, F20]
  simp only [bind_cond, Option.bind_assoc, Option.bind_some, Option.bind_none, Option.bind_fun_some, F20_l0_lp]
theorem F20_tOk (k : Nat) : TabFn Try.prog (F20_t k) := by
  constructor <;> intro f xs cr h <;> unfold F20_t at h <;> split at h <;> first | (simp only [Option.some.injEq] at h; subst h) | (simp at h; done)
  · exact F16_con _ _
  · exact .of (by kernel_rfl)
theorem F20_con (k : Nat) (a0 : List (den pace)) : Contract Try.prog 20 [.one (.l (.s .ro pace a0))] ⟨F20 k a0, fun r => (.one (.v (.int .i64 r)), [])⟩ :=
  con_of (envOk (F20_tOk k) _ _ _ _) mixed Try.func20 rfl rfl (F20_ev k a0 some)
/-! 49: loop.example/netstack/impl.in -/
abbrev F49_E (k : Nat) : Env := env noTab noHint .own [] k
def F49 (k : Nat) (a0 : Int) (a1 : Int) (a2 : Int) : Option (Bool) :=
  cond (decide (a0 ≥ a1))
    (some (decide (a0 ≤ a2)))
    (some false)
theorem F49_st {β : Type} (k : Nat) (a0 : Int) (a1 : Int) (a2 : Int) (K : A × List (List Leaf) → Option β) : evalF (F49_E k) Try.f49 [.one (.l (.v (.int .i64 a0))), .one (.l (.v (.int .i64 a1))), .one (.l (.v (.int .i64 a2)))] K =
    cond (decide (a0 ≥ a1))
      (K (.one (.v (.bool (decide (a0 ≤ a2)))), []))
      (K (.one (.v (.bool false)), [])) := by kernel_rfl
theorem F49_ev {β : Type} (k : Nat) (a0 : Int) (a1 : Int) (a2 : Int) (K : A × List (List Leaf) → Option β) : evalF (F49_E k) Try.f49 [.one (.l (.v (.int .i64 a0))), .one (.l (.v (.int .i64 a1))), .one (.l (.v (.int .i64 a2)))] K = (F49 k a0 a1 a2).bind fun r => K (.one (.v (.bool r)), []) := by
  rw [F49_st, F49]
  simp only [bind_cond, Option.bind_assoc, Option.bind_some, Option.bind_none, Option.bind_fun_some]
theorem F49_con (k : Nat) (a0 : Int) (a1 : Int) (a2 : Int) : Contract Try.prog 49 [.one (.l (.v (.int .i64 a0))), .one (.l (.v (.int .i64 a1))), .one (.l (.v (.int .i64 a2)))] ⟨F49 k a0 a1 a2, fun r => (.one (.v (.bool r)), [])⟩ :=
  con_of (envOk .none _ _ _ _) mixed Try.func49 rfl rfl (F49_ev k a0 a1 a2 some)
/-! 52: loop.example/netstack/impl.PaceOk -/
def F52_t (k : Nat) : Tab
  | 49, [.one (.l (.v (.int .i64 a0))), .one (.l (.v (.int .i64 a1))), .one (.l (.v (.int .i64 a2)))] => some ⟨F49 k a0 a1 a2, fun r => (.one (.v (.bool r)), [])⟩
  | _, _ => none
abbrev F52_E (k : Nat) : Env := env (F52_t k) noHint .own [] k
def F52 (k : Nat) (a0_0 : Int) (a0_1 : Int) (a0_2 : Int) : Option (Bool) :=
  (F49 k a0_0 1 64).bind fun b1 =>
    cond (b1)
      ((F49 k a0_1 2 64).bind fun b2 =>
        cond (b2)
          ((F49 k a0_2 0 (IntKind.i64.wrap (a0_0 - 1))).bind fun b3 =>
            some b3)
          (some false))
      (some false)
theorem F52_st {β : Type} (k : Nat) (a0_0 : Int) (a0_1 : Int) (a0_2 : Int) (K : A × List (List Leaf) → Option β) : evalF (F52_E k) Try.f52 [.agg [.l (.v (.int .i64 a0_0)), .l (.v (.int .i64 a0_1)), .l (.v (.int .i64 a0_2))]] K =
    (F49 k a0_0 1 64).bind fun b1 =>
      cond (b1)
        ((F49 k a0_1 2 64).bind fun b2 =>
          cond (b2)
            ((F49 k a0_2 0 (IntKind.i64.wrap (a0_0 - 1))).bind fun b3 =>
              K (.one (.v (.bool b3)), []))
            (K (.one (.v (.bool false)), [])))
        (K (.one (.v (.bool false)), [])) := by kernel_rfl
theorem F52_ev {β : Type} (k : Nat) (a0_0 : Int) (a0_1 : Int) (a0_2 : Int) (K : A × List (List Leaf) → Option β) : evalF (F52_E k) Try.f52 [.agg [.l (.v (.int .i64 a0_0)), .l (.v (.int .i64 a0_1)), .l (.v (.int .i64 a0_2))]] K = (F52 k a0_0 a0_1 a0_2).bind fun r => K (.one (.v (.bool r)), []) := by
  rw [F52_st, F52]
  simp only [bind_cond, Option.bind_assoc, Option.bind_some, Option.bind_none, Option.bind_fun_some]
theorem F52_tOk (k : Nat) : TabFn Try.prog (F52_t k) := by
  constructor <;> intro f xs cr h <;> unfold F52_t at h <;> split at h <;> first | (simp only [Option.some.injEq] at h; subst h) | (simp at h; done)
  · exact F49_con _ _ _ _
  · exact .of (by kernel_rfl)
theorem F52_con (k : Nat) (a0_0 : Int) (a0_1 : Int) (a0_2 : Int) : Contract Try.prog 52 [.agg [.l (.v (.int .i64 a0_0)), .l (.v (.int .i64 a0_1)), .l (.v (.int .i64 a0_2))]] ⟨F52 k a0_0 a0_1 a0_2, fun r => (.one (.v (.bool r)), [])⟩ :=
  con_of (envOk (F52_tOk k) _ _ _ _) mixed Try.func52 rfl rfl (F52_ev k a0_0 a0_1 a0_2 some)
/-! 51: loop.example/netstack/impl.SharedOk$1 -/
def F51_t (k : Nat) : Tab
  | 52, [.agg [.l (.v (.int .i64 a0_0)), .l (.v (.int .i64 a0_1)), .l (.v (.int .i64 a0_2))]] => some ⟨F52 k a0_0 a0_1 a0_2, fun r => (.one (.v (.bool r)), [])⟩
  | _, _ => none
abbrev F51_E (k : Nat) : Env := env (F51_t k) noHint .own [] k
def F51 (k : Nat) (a0_0 : Int) (a0_1 : Int) (a0_2 : Int) : Option (Bool) :=
  (F52 k a0_0 a0_1 a0_2).bind fun b1 =>
    some (!b1)
theorem F51_st {β : Type} (k : Nat) (a0_0 : Int) (a0_1 : Int) (a0_2 : Int) (K : A × List (List Leaf) → Option β) : evalF (F51_E k) Try.f51 [.agg [.l (.v (.int .i64 a0_0)), .l (.v (.int .i64 a0_1)), .l (.v (.int .i64 a0_2))]] K =
    (F52 k a0_0 a0_1 a0_2).bind fun b1 =>
      K (.one (.v (.bool (!b1))), []) := by kernel_rfl
theorem F51_ev {β : Type} (k : Nat) (a0_0 : Int) (a0_1 : Int) (a0_2 : Int) (K : A × List (List Leaf) → Option β) : evalF (F51_E k) Try.f51 [.agg [.l (.v (.int .i64 a0_0)), .l (.v (.int .i64 a0_1)), .l (.v (.int .i64 a0_2))]] K = (F51 k a0_0 a0_1 a0_2).bind fun r => K (.one (.v (.bool r)), []) := by
  rw [F51_st, F51]
  simp only [bind_cond, Option.bind_assoc, Option.bind_some, Option.bind_none, Option.bind_fun_some]
theorem F51_tOk (k : Nat) : TabFn Try.prog (F51_t k) := by
  constructor <;> intro f xs cr h <;> unfold F51_t at h <;> split at h <;> first | (simp only [Option.some.injEq] at h; subst h) | (simp at h; done)
  · exact F52_con _ _ _ _
  · exact .of (by kernel_rfl)
theorem F51_con (k : Nat) (a0_0 : Int) (a0_1 : Int) (a0_2 : Int) : Contract Try.prog 51 [.agg [.l (.v (.int .i64 a0_0)), .l (.v (.int .i64 a0_1)), .l (.v (.int .i64 a0_2))]] ⟨F51 k a0_0 a0_1 a0_2, fun r => (.one (.v (.bool r)), [])⟩ :=
  con_of (envOk (F51_tOk k) _ _ _ _) mixed Try.func51 rfl rfl (F51_ev k a0_0 a0_1 a0_2 some)
/-! 80: slices.IndexFunc[[]loop.example/netstack/impl.Pace,loop.example/netstack/impl.Pace] -/
def F80_h : Nat → Hint
  | 0 => ⟨[(0, .plain), (1, .plain), (7, .plain), (8, .plain)], []⟩
  | _ => ⟨[], []⟩
def F80_t (k : Nat) : Tab
  | 51, [.agg [.l (.v (.int .i64 a0_0)), .l (.v (.int .i64 a0_1)), .l (.v (.int .i64 a0_2))]] => some ⟨F51 k a0_0 a0_1 a0_2, fun r => (.one (.v (.bool r)), [])⟩
  | _, _ => none
abbrev F80_E (k : Nat) : Env := env (F80_t k) F80_h .own [] k
def F80_s0 (a0 : List (den pace)) (x8_0 : Int) : St := ⟨[.one (.s .ro pace a0), .one (.fn 51 []), .one .d, .one .d, .one .d, .one .d, .one .d, .one (.v (.int .i64 ((a0.length : Nat) : Int))), .one (.v (.int .i64 x8_0)), .one .d, .one .d, .one .d, .one .d, .one .d, .one .d, .one .d, .one .d, .one .d, .one .d], []⟩
def F80_l0 (k : Nat) (a0 : List (den pace)) : Nat → Int → Option (Int)
  | 0, _ => none
  | n + 1, x8_0 =>
    cond (decide (x8_0 < ((a0.length : Nat) : Int)))
      (cond (decide (0 ≤ x8_0))
        (cond (decide (x8_0 < ((a0.length : Nat) : Int)))
          ((F51 k ((atI a0 x8_0).1) (((atI a0 x8_0).2).1) (((atI a0 x8_0).2).2)).bind fun b1 =>
            cond (b1)
              (some x8_0)
              (F80_l0 k a0 n (IntKind.i64.wrap (x8_0 + 1))))
          (none))
        (none))
      (some (-1))
theorem F80_l0_rd {β : Type} (k n : Nat) (a0 : List (den pace)) (x8_0 : Int) (K : A × List (List Leaf) → Option β) :
    loopG (F80_E k) Try.f80 [1, 0, 1, 0] 0 (kontAt (F80_E k) [1, 0, 1, 0] (bodyOf Try.f80) 0 (endC (F80_E k) Try.f80 [.one (.l (.s .ro pace a0)), .one (.fn 51 [])] K)) (n + 1) (F80_s0 a0 x8_0) =
    cond (decide (x8_0 < ((a0.length : Nat) : Int)))
      (cond (decide (0 ≤ x8_0))
        (cond (decide (x8_0 < ((a0.length : Nat) : Int)))
          ((F51 k ((atI a0 x8_0).1) (((atI a0 x8_0).2).1) (((atI a0 x8_0).2).2)).bind fun b1 =>
            cond (b1)
              (K (.one (.v (.int .i64 x8_0)), []))
              (loopG (F80_E k) Try.f80 [1, 0, 1, 0] 0 (kontAt (F80_E k) [1, 0, 1, 0] (bodyOf Try.f80) 0 (endC (F80_E k) Try.f80 [.one (.l (.s .ro pace a0)), .one (.fn 51 [])] K)) n (F80_s0 a0 (IntKind.i64.wrap (x8_0 + 1)))))
          (none))
        (none))
      (K (.one (.v (.int .i64 (-1))), [])) := by kernel_rfl
theorem F80_l0_lp {β : Type} (k : Nat) (a0 : List (den pace)) (K : A × List (List Leaf) → Option β) (n : Nat) : ∀ (x8_0 : Int), loopG (F80_E k) Try.f80 [1, 0, 1, 0] 0 (kontAt (F80_E k) [1, 0, 1, 0] (bodyOf Try.f80) 0 (endC (F80_E k) Try.f80 [.one (.l (.s .ro pace a0)), .one (.fn 51 [])] K)) n (F80_s0 a0 x8_0) =
    (F80_l0 k a0 n x8_0).bind fun r => K (.one (.v (.int .i64 r)), []) := by
  induction n with
  | zero => intros; rfl
  | succ n ih =>
    intros
    rw [F80_l0_rd, F80_l0]
    simp only [bind_cond, Option.bind_assoc, Option.bind_some, Option.bind_none, Option.bind_fun_some, ih]
def F80 (k : Nat) (a0 : List (den pace)) : Option (Int) :=
  F80_l0 k a0 k 0
theorem F80_st {β : Type} (k : Nat) (a0 : List (den pace)) (K : A × List (List Leaf) → Option β) : evalF (F80_E k) Try.f80 [.one (.l (.s .ro pace a0)), .one (.fn 51 [])] K =
    loopG (F80_E k) Try.f80 [1, 0, 1, 0] 0 (kontAt (F80_E k) [1, 0, 1, 0] (bodyOf Try.f80) 0 (endC (F80_E k) Try.f80 [.one (.l (.s .ro pace a0)), .one (.fn 51 [])] K)) k (F80_s0 a0 0) := by kernel_rfl
theorem F80_ev {β : Type} (k : Nat) (a0 : List (den pace)) (K : A × List (List Leaf) → Option β) : evalF (F80_E k) Try.f80 [.one (.l (.s .ro pace a0)), .one (.fn 51 [])] K = (F80 k a0).bind fun r => K (.one (.v (.int .i64 r)), []) := by
  rw [F80_st, F80]
  simp only [bind_cond, Option.bind_assoc, Option.bind_some, Option.bind_none, Option.bind_fun_some, F80_l0_lp]
theorem F80_tOk (k : Nat) : TabFn Try.prog (F80_t k) := by
  constructor <;> intro f xs cr h <;> unfold F80_t at h <;> split at h <;> first | (simp only [Option.some.injEq] at h; subst h) | (simp at h; done)
  · exact F51_con _ _ _ _
  · exact .of (by kernel_rfl)
theorem F80_con (k : Nat) (a0 : List (den pace)) : Contract Try.prog 80 [.one (.l (.s .ro pace a0)), .one (.fn 51 [])] ⟨F80 k a0, fun r => (.one (.v (.int .i64 r)), [])⟩ :=
  con_of (envOk (F80_tOk k) _ _ _ _) mixed Try.func80 rfl rfl (F80_ev k a0 some)
/-! 50: slices.ContainsFunc[[]loop.example/netstack/impl.Pace,loop.example/netstack/impl.Pace] -/
def F50_t (k : Nat) : Tab
  | 80, [.one (.l (.s .ro (.pair (.int .i64) (.pair (.int .i64) (.int .i64))) a0)), .one (.fn 51 [])] => some ⟨F80 k a0, fun r => (.one (.v (.int .i64 r)), [])⟩
  | _, _ => none
abbrev F50_E (k : Nat) : Env := env (F50_t k) noHint .own [] k
def F50 (k : Nat) (a0 : List (den pace)) : Option (Bool) :=
  (F80 k a0).bind fun b1 =>
    some (decide (b1 ≥ 0))
theorem F50_st {β : Type} (k : Nat) (a0 : List (den pace)) (K : A × List (List Leaf) → Option β) : evalF (F50_E k) Try.f50 [.one (.l (.s .ro pace a0)), .one (.fn 51 [])] K =
    (F80 k a0).bind fun b1 =>
      K (.one (.v (.bool (decide (b1 ≥ 0)))), []) := by kernel_rfl
theorem F50_ev {β : Type} (k : Nat) (a0 : List (den pace)) (K : A × List (List Leaf) → Option β) : evalF (F50_E k) Try.f50 [.one (.l (.s .ro pace a0)), .one (.fn 51 [])] K = (F50 k a0).bind fun r => K (.one (.v (.bool r)), []) := by
  rw [F50_st, F50]
  simp only [bind_cond, Option.bind_assoc, Option.bind_some, Option.bind_none, Option.bind_fun_some]
theorem F50_tOk (k : Nat) : TabFn Try.prog (F50_t k) := by
  constructor <;> intro f xs cr h <;> unfold F50_t at h <;> split at h <;> first | (simp only [Option.some.injEq] at h; subst h) | (simp at h; done)
  · exact F80_con _ _
  · exact .of (by kernel_rfl)
theorem F50_con (k : Nat) (a0 : List (den pace)) : Contract Try.prog 50 [.one (.l (.s .ro pace a0)), .one (.fn 51 [])] ⟨F50 k a0, fun r => (.one (.v (.bool r)), [])⟩ :=
  con_of (envOk (F50_tOk k) _ _ _ _) mixed Try.func50 rfl rfl (F50_ev k a0 some)
/-! 18: loop.example/netstack/impl.SharedOk -/
def F18_t (k : Nat) : Tab
  | 49, [.one (.l (.v (.int .i64 a0))), .one (.l (.v (.int .i64 a1))), .one (.l (.v (.int .i64 a2)))] => some ⟨F49 k a0 a1 a2, fun r => (.one (.v (.bool r)), [])⟩
  | 50, [.one (.l (.s .ro (.pair (.int .i64) (.pair (.int .i64) (.int .i64))) a0)), .one (.fn 51 [])] => some ⟨F50 k a0, fun r => (.one (.v (.bool r)), [])⟩
  | _, _ => none
abbrev F18_E (k : Nat) : Env := env (F18_t k) noHint .own [] k
def F18 (k : Nat) (a0 : List (den pace)) : Option (Bool) :=
  (F49 k ((a0.length : Nat) : Int) 1 5).bind fun b1 =>
    cond (b1)
      ((F50 k a0).bind fun b2 =>
        some (!b2))
      (some false)
theorem F18_st {β : Type} (k : Nat) (a0 : List (den pace)) (K : A × List (List Leaf) → Option β) : evalF (F18_E k) Try.f18 [.one (.l (.s .ro pace a0))] K =
    (F49 k ((a0.length : Nat) : Int) 1 5).bind fun b1 =>
      cond (b1)
        ((F50 k a0).bind fun b2 =>
          K (.one (.v (.bool (!b2))), []))
        (K (.one (.v (.bool false)), [])) := by kernel_rfl
theorem F18_ev {β : Type} (k : Nat) (a0 : List (den pace)) (K : A × List (List Leaf) → Option β) : evalF (F18_E k) Try.f18 [.one (.l (.s .ro pace a0))] K = (F18 k a0).bind fun r => K (.one (.v (.bool r)), []) := by
  rw [F18_st, F18]
  simp only [bind_cond, Option.bind_assoc, Option.bind_some, Option.bind_none, Option.bind_fun_some]
theorem F18_tOk (k : Nat) : TabFn Try.prog (F18_t k) := by
  constructor <;> intro f xs cr h <;> unfold F18_t at h <;> split at h <;> first | (simp only [Option.some.injEq] at h; subst h) | (simp at h; done)
  · exact F49_con _ _ _ _
  · exact F50_con _ _
  · exact .of (by kernel_rfl)
  · exact .of (by kernel_rfl)
theorem F18_con (k : Nat) (a0 : List (den pace)) : Contract Try.prog 18 [.one (.l (.s .ro pace a0))] ⟨F18 k a0, fun r => (.one (.v (.bool r)), [])⟩ :=
  con_of (envOk (F18_tOk k) _ _ _ _) mixed Try.func18 rfl rfl (F18_ev k a0 some)
/-! 21: loop.example/netstack/impl.SharedFar -/
def F21_h : Nat → Hint
  | 0 => ⟨[(3, .plain), (4, .plain), (18, .plain), (19, .plain), (20, .plain)], []⟩
  | _ => ⟨[], []⟩
def F21_t (k : Nat) : Tab
  | 18, [.one (.l (.s .ro (.pair (.int .i64) (.pair (.int .i64) (.int .i64))) a0))] => some ⟨F18 k a0, fun r => (.one (.v (.bool r)), [])⟩
  | _, _ => none
abbrev F21_E (k : Nat) : Env := env (F21_t k) F21_h .own [] k
def F21_s0 (a0 : List (den pace)) (x3_0 : Int) (x4_0 : Int) (x20_0 : Int) : St := ⟨[.one .d, .one .d, .one .d, .one (.v (.int .i64 x3_0)), .one (.v (.int .i64 x4_0)), .one .d, .one .d, .one .d, .one .d, .one .d, .one .d, .one .d, .one .d, .one .d, .one .d, .one .d, .one .d, .one .d, .one (.s .ro pace a0), .one (.v (.int .i64 ((a0.length : Nat) : Int))), .one (.v (.int .i64 x20_0)), .one .d, .one .d, .one .d, .one .d, .one .d, .one .d, .one .d, .one .d, .one .d, .one .d, .one .d, .one .d, .one .d, .one .d, .one .d], []⟩
def F21_l0 (k : Nat) (a0 : List (den pace)) : Nat → Int → Int → Int → Option (Int)
  | 0, _, _, _ => none
  | n + 1, x3_0, x4_0, x20_0 =>
    cond (decide (x20_0 < ((a0.length : Nat) : Int)))
      (cond (decide (0 ≤ x20_0))
        (cond (decide (x20_0 < ((a0.length : Nat) : Int)))
          (F21_l0 k a0 n (if ((atI a0 x20_0).1) < x3_0 then (atI a0 x20_0).1 else x3_0) (if x4_0 < ((atI a0 x20_0).1) then (atI a0 x20_0).1 else x4_0) (IntKind.i64.wrap (x20_0 + 1)))
          (none))
        (none))
      (some (IntKind.i64.wrap (x4_0 - x3_0)))
theorem F21_l0_rd {β : Type} (k n : Nat) (a0 : List (den pace)) (x3_0 : Int) (x4_0 : Int) (x20_0 : Int) (K : A × List (List Leaf) → Option β) :
    loopG (F21_E k) Try.f21 [1, 1, 1, 0, 1, 0] 0 (kontAt (F21_E k) [1, 1, 1, 0, 1, 0] (bodyOf Try.f21) 0 (endC (F21_E k) Try.f21 [.one (.l (.s .ro pace a0))] K)) (n + 1) (F21_s0 a0 x3_0 x4_0 x20_0) =
    cond (decide (x20_0 < ((a0.length : Nat) : Int)))
      (cond (decide (0 ≤ x20_0))
        (cond (decide (x20_0 < ((a0.length : Nat) : Int)))
          (loopG (F21_E k) Try.f21 [1, 1, 1, 0, 1, 0] 0 (kontAt (F21_E k) [1, 1, 1, 0, 1, 0] (bodyOf Try.f21) 0 (endC (F21_E k) Try.f21 [.one (.l (.s .ro pace a0))] K)) n (F21_s0 a0 (if ((atI a0 x20_0).1) < x3_0 then (atI a0 x20_0).1 else x3_0) (if x4_0 < ((atI a0 x20_0).1) then (atI a0 x20_0).1 else x4_0) (IntKind.i64.wrap (x20_0 + 1))))
          (none))
        (none))
      (K (.one (.v (.int .i64 (IntKind.i64.wrap (x4_0 - x3_0)))), [])) := by kernel_rfl
theorem F21_l0_lp {β : Type} (k : Nat) (a0 : List (den pace)) (K : A × List (List Leaf) → Option β) (n : Nat) : ∀ (x3_0 : Int) (x4_0 : Int) (x20_0 : Int), loopG (F21_E k) Try.f21 [1, 1, 1, 0, 1, 0] 0 (kontAt (F21_E k) [1, 1, 1, 0, 1, 0] (bodyOf Try.f21) 0 (endC (F21_E k) Try.f21 [.one (.l (.s .ro pace a0))] K)) n (F21_s0 a0 x3_0 x4_0 x20_0) =
    (F21_l0 k a0 n x3_0 x4_0 x20_0).bind fun r => K (.one (.v (.int .i64 r)), []) := by
  induction n with
  | zero => intros; rfl
  | succ n ih =>
    intros
    rw [F21_l0_rd, F21_l0]
    simp only [bind_cond, Option.bind_assoc, Option.bind_some, Option.bind_none, Option.bind_fun_some, ih]
def F21 (k : Nat) (a0 : List (den pace)) : Option (Int) :=
  (F18 k a0).bind fun b1 =>
    cond ((!b1))
      (some (-1))
      (cond (decide (0 < ((a0.length : Nat) : Int)))
        (cond (decide (0 < ((a0.length : Nat) : Int)))
          (F21_l0 k a0 k ((atI a0 0).1) ((atI a0 0).1) 0)
          (none))
        (none))
theorem F21_st {β : Type} (k : Nat) (a0 : List (den pace)) (K : A × List (List Leaf) → Option β) : evalF (F21_E k) Try.f21 [.one (.l (.s .ro pace a0))] K =
    (F18 k a0).bind fun b1 =>
      cond ((!b1))
        (K (.one (.v (.int .i64 (-1))), []))
        (cond (decide (0 < ((a0.length : Nat) : Int)))
          (cond (decide (0 < ((a0.length : Nat) : Int)))
            (loopG (F21_E k) Try.f21 [1, 1, 1, 0, 1, 0] 0 (kontAt (F21_E k) [1, 1, 1, 0, 1, 0] (bodyOf Try.f21) 0 (endC (F21_E k) Try.f21 [.one (.l (.s .ro pace a0))] K)) k (F21_s0 a0 ((atI a0 0).1) ((atI a0 0).1) 0))
            (none))
          (none)) := by kernel_rfl
theorem F21_ev {β : Type} (k : Nat) (a0 : List (den pace)) (K : A × List (List Leaf) → Option β) : evalF (F21_E k) Try.f21 [.one (.l (.s .ro pace a0))] K = (F21 k a0).bind fun r => K (.one (.v (.int .i64 r)), []) := by
  rw [F21_st, F21]
  simp only [bind_cond, Option.bind_assoc, Option.bind_some, Option.bind_none, Option.bind_fun_some, F21_l0_lp]
theorem F21_tOk (k : Nat) : TabFn Try.prog (F21_t k) := by
  constructor <;> intro f xs cr h <;> unfold F21_t at h <;> split at h <;> first | (simp only [Option.some.injEq] at h; subst h) | (simp at h; done)
  · exact F18_con _ _
  · exact .of (by kernel_rfl)
theorem F21_con (k : Nat) (a0 : List (den pace)) : Contract Try.prog 21 [.one (.l (.s .ro pace a0))] ⟨F21 k a0, fun r => (.one (.v (.int .i64 r)), [])⟩ :=
  con_of (envOk (F21_tOk k) _ _ _ _) mixed Try.func21 rfl rfl (F21_ev k a0 some)
/-! 53: loop.example/netstack/laws.eqPace -/
abbrev F53_E (k : Nat) : Env := env noTab noHint .own [] k
def F53 (k : Nat) (a0_0 : Int) (a0_1 : Int) (a0_2 : Int) (a1_0 : Int) (a1_1 : Int) (a1_2 : Int) : Option (Bool) :=
  cond ((a0_0 != a1_0))
    (some false)
    (cond ((a0_1 != a1_1))
      (some false)
      (cond ((a0_2 != a1_2))
        (some false)
        (some true)))
theorem F53_st {β : Type} (k : Nat) (a0_0 : Int) (a0_1 : Int) (a0_2 : Int) (a1_0 : Int) (a1_1 : Int) (a1_2 : Int) (K : A × List (List Leaf) → Option β) : evalF (F53_E k) Try.f53 [.agg [.l (.v (.int .i64 a0_0)), .l (.v (.int .i64 a0_1)), .l (.v (.int .i64 a0_2))], .agg [.l (.v (.int .i64 a1_0)), .l (.v (.int .i64 a1_1)), .l (.v (.int .i64 a1_2))]] K =
    cond ((a0_0 != a1_0))
      (K (.one (.v (.bool false)), []))
      (cond ((a0_1 != a1_1))
        (K (.one (.v (.bool false)), []))
        (cond ((a0_2 != a1_2))
          (K (.one (.v (.bool false)), []))
          (K (.one (.v (.bool true)), [])))) := by kernel_rfl
theorem F53_ev {β : Type} (k : Nat) (a0_0 : Int) (a0_1 : Int) (a0_2 : Int) (a1_0 : Int) (a1_1 : Int) (a1_2 : Int) (K : A × List (List Leaf) → Option β) : evalF (F53_E k) Try.f53 [.agg [.l (.v (.int .i64 a0_0)), .l (.v (.int .i64 a0_1)), .l (.v (.int .i64 a0_2))], .agg [.l (.v (.int .i64 a1_0)), .l (.v (.int .i64 a1_1)), .l (.v (.int .i64 a1_2))]] K = (F53 k a0_0 a0_1 a0_2 a1_0 a1_1 a1_2).bind fun r => K (.one (.v (.bool r)), []) := by
  rw [F53_st, F53]
  simp only [bind_cond, Option.bind_assoc, Option.bind_some, Option.bind_none, Option.bind_fun_some]
theorem F53_con (k : Nat) (a0_0 : Int) (a0_1 : Int) (a0_2 : Int) (a1_0 : Int) (a1_1 : Int) (a1_2 : Int) : Contract Try.prog 53 [.agg [.l (.v (.int .i64 a0_0)), .l (.v (.int .i64 a0_1)), .l (.v (.int .i64 a0_2))], .agg [.l (.v (.int .i64 a1_0)), .l (.v (.int .i64 a1_1)), .l (.v (.int .i64 a1_2))]] ⟨F53 k a0_0 a0_1 a0_2 a1_0 a1_1 a1_2, fun r => (.one (.v (.bool r)), [])⟩ :=
  con_of (envOk .none _ _ _ _) mixed Try.func53 rfl rfl (F53_ev k a0_0 a0_1 a0_2 a1_0 a1_1 a1_2 some)
/-! 19: loop.example/netstack/laws.eqPaceS -/
def F19_h : Nat → Hint
  | 0 => ⟨[(0, .plain), (1, .plain), (5, .plain)], []⟩
  | _ => ⟨[], []⟩
def F19_t (k : Nat) : Tab
  | 53, [.agg [.l (.v (.int .i64 a0_0)), .l (.v (.int .i64 a0_1)), .l (.v (.int .i64 a0_2))], .agg [.l (.v (.int .i64 a1_0)), .l (.v (.int .i64 a1_1)), .l (.v (.int .i64 a1_2))]] => some ⟨F53 k a0_0 a0_1 a0_2 a1_0 a1_1 a1_2, fun r => (.one (.v (.bool r)), [])⟩
  | _, _ => none
abbrev F19_E (k : Nat) : Env := env (F19_t k) F19_h .own [] k
def F19_s0 (a0 : List (den pace)) (a1 : List (den pace)) (x5_0 : Int) : St := ⟨[.one (.s .ro pace a0), .one (.s .ro pace a1), .one .d, .one .d, .one .d, .one (.v (.int .i64 x5_0)), .one .d, .one .d, .one .d, .one .d, .one .d, .one .d, .one .d, .one .d, .one .d, .one .d, .one .d, .one .d, .one .d, .one .d, .one .d, .one .d, .one .d, .one .d, .one .d, .one .d, .one .d], []⟩
def F19_l0 (k : Nat) (a0 : List (den pace)) (a1 : List (den pace)) : Nat → Int → Option (Bool)
  | 0, _ => none
  | n + 1, x5_0 =>
    cond (decide (x5_0 < ((a0.length : Nat) : Int)))
      (cond (decide (0 ≤ x5_0))
        (cond (decide (x5_0 < ((a0.length : Nat) : Int)))
          (cond (decide (0 ≤ x5_0))
            (cond (decide (x5_0 < ((a1.length : Nat) : Int)))
              ((F53 k ((atI a0 x5_0).1) (((atI a0 x5_0).2).1) (((atI a0 x5_0).2).2) ((atI a1 x5_0).1) (((atI a1 x5_0).2).1) (((atI a1 x5_0).2).2)).bind fun b1 =>
                cond ((!b1))
                  (some false)
                  (F19_l0 k a0 a1 n (IntKind.i64.wrap (x5_0 + 1))))
              (none))
            (none))
          (none))
        (none))
      (some true)
theorem F19_l0_rd {β : Type} (k n : Nat) (a0 : List (den pace)) (a1 : List (den pace)) (x5_0 : Int) (K : A × List (List Leaf) → Option β) :
    loopG (F19_E k) Try.f19 [1, 1, 0, 1, 0] 0 (kontAt (F19_E k) [1, 1, 0, 1, 0] (bodyOf Try.f19) 0 (endC (F19_E k) Try.f19 [.one (.l (.s .ro pace a0)), .one (.l (.s .ro pace a1))] K)) (n + 1) (F19_s0 a0 a1 x5_0) =
    cond (decide (x5_0 < ((a0.length : Nat) : Int)))
      (cond (decide (0 ≤ x5_0))
        (cond (decide (x5_0 < ((a0.length : Nat) : Int)))
          (cond (decide (0 ≤ x5_0))
            (cond (decide (x5_0 < ((a1.length : Nat) : Int)))
              ((F53 k ((atI a0 x5_0).1) (((atI a0 x5_0).2).1) (((atI a0 x5_0).2).2) ((atI a1 x5_0).1) (((atI a1 x5_0).2).1) (((atI a1 x5_0).2).2)).bind fun b1 =>
                cond ((!b1))
                  (K (.one (.v (.bool false)), []))
                  (loopG (F19_E k) Try.f19 [1, 1, 0, 1, 0] 0 (kontAt (F19_E k) [1, 1, 0, 1, 0] (bodyOf Try.f19) 0 (endC (F19_E k) Try.f19 [.one (.l (.s .ro pace a0)), .one (.l (.s .ro pace a1))] K)) n (F19_s0 a0 a1 (IntKind.i64.wrap (x5_0 + 1)))))
              (none))
            (none))
          (none))
        (none))
      (K (.one (.v (.bool true)), [])) := by kernel_rfl
theorem F19_l0_lp {β : Type} (k : Nat) (a0 : List (den pace)) (a1 : List (den pace)) (K : A × List (List Leaf) → Option β) (n : Nat) : ∀ (x5_0 : Int), loopG (F19_E k) Try.f19 [1, 1, 0, 1, 0] 0 (kontAt (F19_E k) [1, 1, 0, 1, 0] (bodyOf Try.f19) 0 (endC (F19_E k) Try.f19 [.one (.l (.s .ro pace a0)), .one (.l (.s .ro pace a1))] K)) n (F19_s0 a0 a1 x5_0) =
    (F19_l0 k a0 a1 n x5_0).bind fun r => K (.one (.v (.bool r)), []) := by
  induction n with
  | zero => intros; rfl
  | succ n ih =>
    intros
    rw [F19_l0_rd, F19_l0]
    simp only [bind_cond, Option.bind_assoc, Option.bind_some, Option.bind_none, Option.bind_fun_some, ih]
def F19 (k : Nat) (a0 : List (den pace)) (a1 : List (den pace)) : Option (Bool) :=
  cond ((((a0.length : Nat) : Int) != ((a1.length : Nat) : Int)))
    (some false)
    (F19_l0 k a0 a1 k 0)
theorem F19_st {β : Type} (k : Nat) (a0 : List (den pace)) (a1 : List (den pace)) (K : A × List (List Leaf) → Option β) : evalF (F19_E k) Try.f19 [.one (.l (.s .ro pace a0)), .one (.l (.s .ro pace a1))] K =
    cond ((((a0.length : Nat) : Int) != ((a1.length : Nat) : Int)))
      (K (.one (.v (.bool false)), []))
      (loopG (F19_E k) Try.f19 [1, 1, 0, 1, 0] 0 (kontAt (F19_E k) [1, 1, 0, 1, 0] (bodyOf Try.f19) 0 (endC (F19_E k) Try.f19 [.one (.l (.s .ro pace a0)), .one (.l (.s .ro pace a1))] K)) k (F19_s0 a0 a1 0)) := by kernel_rfl
theorem F19_ev {β : Type} (k : Nat) (a0 : List (den pace)) (a1 : List (den pace)) (K : A × List (List Leaf) → Option β) : evalF (F19_E k) Try.f19 [.one (.l (.s .ro pace a0)), .one (.l (.s .ro pace a1))] K = (F19 k a0 a1).bind fun r => K (.one (.v (.bool r)), []) := by
  rw [F19_st, F19]
  simp only [bind_cond, Option.bind_assoc, Option.bind_some, Option.bind_none, Option.bind_fun_some, F19_l0_lp]
theorem F19_tOk (k : Nat) : TabFn Try.prog (F19_t k) := by
  constructor <;> intro f xs cr h <;> unfold F19_t at h <;> split at h <;> first | (simp only [Option.some.injEq] at h; subst h) | (simp at h; done)
  · exact F53_con _ _ _ _ _ _ _
  · exact .of (by kernel_rfl)
theorem F19_con (k : Nat) (a0 : List (den pace)) (a1 : List (den pace)) : Contract Try.prog 19 [.one (.l (.s .ro pace a0)), .one (.l (.s .ro pace a1))] ⟨F19 k a0 a1, fun r => (.one (.v (.bool r)), [])⟩ :=
  con_of (envOk (F19_tOk k) _ _ _ _) mixed Try.func19 rfl rfl (F19_ev k a0 a1 some)
/-! 4: loop.example/netstack/laws.FnExactSharedFar -/
def F4_t (k : Nat) : Tab
  | 15, [.one (.l (.s .ro (.pair (.int .i64) (.pair (.int .i64) (.int .i64))) a0)), .one (.l (.v (.int .i64 a1)))] => some ⟨F15 k a0 a1, fun r => (.one (.v (.int .i64 r)), [])⟩
  | 17, [.one (.l (.s .ro (.pair (.int .i64) (.pair (.int .i64) (.int .i64))) a0))] => some ⟨F17 k a0, fun r => (.one (.s .own pace r), [])⟩
  | 20, [.one (.l (.s .ro (.pair (.int .i64) (.pair (.int .i64) (.int .i64))) a0))] => some ⟨F20 k a0, fun r => (.one (.v (.int .i64 r)), [])⟩
  | 21, [.one (.l (.s .ro (.pair (.int .i64) (.pair (.int .i64) (.int .i64))) a0))] => some ⟨F21 k a0, fun r => (.one (.v (.int .i64 r)), [])⟩
  | 19, [.one (.l (.s .ro (.pair (.int .i64) (.pair (.int .i64) (.int .i64))) a0)), .one (.l (.s .ro (.pair (.int .i64) (.pair (.int .i64) (.int .i64))) a1))] => some ⟨F19 k a0 a1, fun r => (.one (.v (.bool r)), [])⟩
  | _, _ => none
abbrev F4_E (k : Nat) : Env := env (F4_t k) noHint .own [] k
def F4 (k : Nat) (a0 : List (den pace)) : Option (Bool) :=
  (F15 k a0 1048576).bind fun b1 =>
    cond (decide (b1 < 0))
      (some true)
      ((F17 k a0).bind fun b2 =>
        (F20 k b2).bind fun b3 =>
          (F17 k a0).bind fun b4 =>
            (F21 k b4).bind fun b5 =>
              cond ((b5 != b3))
                (some false)
                ((F17 k a0).bind fun b6 =>
                  (F19 k b4 b6).bind fun b7 =>
                    cond ((!b7))
                      (some false)
                      (some true)))
theorem F4_st {β : Type} (k : Nat) (a0 : List (den pace)) (K : A × List (List Leaf) → Option β) : evalF (F4_E k) Try.f4 [.one (.l (.s .ro pace a0))] K =
    (F15 k a0 1048576).bind fun b1 =>
      cond (decide (b1 < 0))
        (K (.one (.v (.bool true)), []))
        ((F17 k a0).bind fun b2 =>
          (F20 k b2).bind fun b3 =>
            (F17 k a0).bind fun b4 =>
              (F21 k b4).bind fun b5 =>
                cond ((b5 != b3))
                  (K (.one (.v (.bool false)), []))
                  ((F17 k a0).bind fun b6 =>
                    (F19 k b4 b6).bind fun b7 =>
                      cond ((!b7))
                        (K (.one (.v (.bool false)), []))
                        (K (.one (.v (.bool true)), [])))) := by kernel_rfl
theorem F4_ev {β : Type} (k : Nat) (a0 : List (den pace)) (K : A × List (List Leaf) → Option β) : evalF (F4_E k) Try.f4 [.one (.l (.s .ro pace a0))] K = (F4 k a0).bind fun r => K (.one (.v (.bool r)), []) := by
  rw [F4_st, F4]
  simp only [bind_cond, Option.bind_assoc, Option.bind_some, Option.bind_none, Option.bind_fun_some]
theorem F4_tOk (k : Nat) : TabFn Try.prog (F4_t k) := by
  constructor <;> intro f xs cr h <;> unfold F4_t at h <;> split at h <;> first | (simp only [Option.some.injEq] at h; subst h) | (simp at h; done)
  · exact F15_con _ _ _
  · exact F17_con _ _
  · exact F20_con _ _
  · exact F21_con _ _
  · exact F19_con _ _ _
  · exact .of (by kernel_rfl)
  · exact .of (by kernel_rfl)
  · exact .of (by kernel_rfl)
  · exact .of (by kernel_rfl)
  · exact .of (by kernel_rfl)
theorem F4_con (k : Nat) (a0 : List (den pace)) : Contract Try.prog 4 [.one (.l (.s .ro pace a0))] ⟨F4 k a0, fun r => (.one (.v (.bool r)), [])⟩ :=
  con_of (envOk (F4_tOk k) _ _ _ _) mixed Try.func4 rfl rfl (F4_ev k a0 some)
/-! 22: loop.example/netstack/spec.SharedAll -/
def F22_h : Nat → Hint
  | 0 => ⟨[(0, .plain), (3, .plain), (4, .plain)], []⟩
  | _ => ⟨[], []⟩
def F22_t (k : Nat) : Tab
  | 16, [.one (.l (.s .ro (.pair (.int .i64) (.pair (.int .i64) (.int .i64))) a0))] => some ⟨F16 k a0, fun r => (.one (.v (.bool r)), [])⟩
  | _, _ => none
abbrev F22_E (k : Nat) : Env := env (F22_t k) F22_h .own [] k
def F22_s0 (a0 : List (den pace)) (x3_0 : Int) (x4_0 : Int) : St := ⟨[.one (.s .ro pace a0), .one .d, .one .d, .one (.v (.int .i64 x3_0)), .one (.v (.int .i64 x4_0)), .one .d, .one .d, .one .d, .one .d, .one .d, .one .d, .one .d, .one .d, .one .d, .one .d, .one .d, .one .d, .one .d, .one .d, .one .d, .one .d, .one .d], []⟩
def F22_l0 (k : Nat) (a0 : List (den pace)) : Nat → Int → Int → Option (Int)
  | 0, _, _ => none
  | n + 1, x3_0, x4_0 =>
    cond (decide (x4_0 < ((a0.length : Nat) : Int)))
      (cond (decide (0 ≤ x4_0))
        (cond (decide (x4_0 < ((a0.length : Nat) : Int)))
          (F22_l0 k a0 n (IntKind.i64.wrap (x3_0 + ((atI a0 x4_0).1))) (IntKind.i64.wrap (x4_0 + 1)))
          (none))
        (none))
      (some x3_0)
theorem F22_l0_rd {β : Type} (k n : Nat) (a0 : List (den pace)) (x3_0 : Int) (x4_0 : Int) (K : A × List (List Leaf) → Option β) :
    loopG (F22_E k) Try.f22 [1, 1, 1, 0, 1, 0] 0 (kontAt (F22_E k) [1, 1, 1, 0, 1, 0] (bodyOf Try.f22) 0 (endC (F22_E k) Try.f22 [.one (.l (.s .ro pace a0))] K)) (n + 1) (F22_s0 a0 x3_0 x4_0) =
    cond (decide (x4_0 < ((a0.length : Nat) : Int)))
      (cond (decide (0 ≤ x4_0))
        (cond (decide (x4_0 < ((a0.length : Nat) : Int)))
          (loopG (F22_E k) Try.f22 [1, 1, 1, 0, 1, 0] 0 (kontAt (F22_E k) [1, 1, 1, 0, 1, 0] (bodyOf Try.f22) 0 (endC (F22_E k) Try.f22 [.one (.l (.s .ro pace a0))] K)) n (F22_s0 a0 (IntKind.i64.wrap (x3_0 + ((atI a0 x4_0).1))) (IntKind.i64.wrap (x4_0 + 1))))
          (none))
        (none))
      (K (.one (.v (.int .i64 x3_0)), [])) := by kernel_rfl
theorem F22_l0_lp {β : Type} (k : Nat) (a0 : List (den pace)) (K : A × List (List Leaf) → Option β) (n : Nat) : ∀ (x3_0 : Int) (x4_0 : Int), loopG (F22_E k) Try.f22 [1, 1, 1, 0, 1, 0] 0 (kontAt (F22_E k) [1, 1, 1, 0, 1, 0] (bodyOf Try.f22) 0 (endC (F22_E k) Try.f22 [.one (.l (.s .ro pace a0))] K)) n (F22_s0 a0 x3_0 x4_0) =
    (F22_l0 k a0 n x3_0 x4_0).bind fun r => K (.one (.v (.int .i64 r)), []) := by
  induction n with
  | zero => intros; rfl
  | succ n ih =>
    intros
    rw [F22_l0_rd, F22_l0]
    simp only [bind_cond, Option.bind_assoc, Option.bind_some, Option.bind_none, Option.bind_fun_some, ih]
def F22 (k : Nat) (a0 : List (den pace)) : Option (Int) :=
  (F16 k a0).bind fun b1 =>
    cond ((!b1))
      (some (-1))
      (F22_l0 k a0 k 0 0)
theorem F22_st {β : Type} (k : Nat) (a0 : List (den pace)) (K : A × List (List Leaf) → Option β) : evalF (F22_E k) Try.f22 [.one (.l (.s .ro pace a0))] K =
    (F16 k a0).bind fun b1 =>
      cond ((!b1))
        (K (.one (.v (.int .i64 (-1))), []))
        (loopG (F22_E k) Try.f22 [1, 1, 1, 0, 1, 0] 0 (kontAt (F22_E k) [1, 1, 1, 0, 1, 0] (bodyOf Try.f22) 0 (endC (F22_E k) Try.f22 [.one (.l (.s .ro pace a0))] K)) k (F22_s0 a0 0 0)) := by kernel_rfl
theorem F22_ev {β : Type} (k : Nat) (a0 : List (den pace)) (K : A × List (List Leaf) → Option β) : evalF (F22_E k) Try.f22 [.one (.l (.s .ro pace a0))] K = (F22 k a0).bind fun r => K (.one (.v (.int .i64 r)), []) := by
  rw [F22_st, F22]
  simp only [bind_cond, Option.bind_assoc, Option.bind_some, Option.bind_none, Option.bind_fun_some, F22_l0_lp]
theorem F22_tOk (k : Nat) : TabFn Try.prog (F22_t k) := by
  constructor <;> intro f xs cr h <;> unfold F22_t at h <;> split at h <;> first | (simp only [Option.some.injEq] at h; subst h) | (simp at h; done)
  · exact F16_con _ _
  · exact .of (by kernel_rfl)
theorem F22_con (k : Nat) (a0 : List (den pace)) : Contract Try.prog 22 [.one (.l (.s .ro pace a0))] ⟨F22 k a0, fun r => (.one (.v (.int .i64 r)), [])⟩ :=
  con_of (envOk (F22_tOk k) _ _ _ _) mixed Try.func22 rfl rfl (F22_ev k a0 some)
/-! 54: loop.example/netstack/impl.sharedAll -/
def F54_h : Nat → Hint
  | 0 => ⟨[(3, .plain), (6, .plain), (7, .plain), (8, .plain)], []⟩
  | _ => ⟨[], []⟩
abbrev F54_E (k : Nat) : Env := env noTab F54_h .own [] k
def F54_s0 (a0 : List (den pace)) (x3_0 : Int) (x8_0 : Int) : St := ⟨[.one .d, .one .d, .one .d, .one (.v (.int .i64 x3_0)), .one .d, .one .d, .one (.s .ro pace a0), .one (.v (.int .i64 ((a0.length : Nat) : Int))), .one (.v (.int .i64 x8_0)), .one .d, .one .d, .one .d, .one .d, .one .d, .one .d, .one .d, .one .d, .one .d], []⟩
def F54_l0 (k : Nat) (a0 : List (den pace)) : Nat → Int → Int → Option (Int)
  | 0, _, _ => none
  | n + 1, x3_0, x8_0 =>
    cond (decide (x8_0 < ((a0.length : Nat) : Int)))
      (cond (decide (0 ≤ x8_0))
        (cond (decide (x8_0 < ((a0.length : Nat) : Int)))
          (F54_l0 k a0 n (IntKind.i64.wrap (x3_0 + ((atI a0 x8_0).1))) (IntKind.i64.wrap (x8_0 + 1)))
          (none))
        (none))
      (some x3_0)
theorem F54_l0_rd {β : Type} (k n : Nat) (a0 : List (den pace)) (x3_0 : Int) (x8_0 : Int) (K : A × List (List Leaf) → Option β) :
    loopG (F54_E k) Try.f54 [1, 1, 0, 1, 0] 0 (kontAt (F54_E k) [1, 1, 0, 1, 0] (bodyOf Try.f54) 0 (endC (F54_E k) Try.f54 [.one (.l (.s .ro pace a0))] K)) (n + 1) (F54_s0 a0 x3_0 x8_0) =
    cond (decide (x8_0 < ((a0.length : Nat) : Int)))
      (cond (decide (0 ≤ x8_0))
        (cond (decide (x8_0 < ((a0.length : Nat) : Int)))
          (loopG (F54_E k) Try.f54 [1, 1, 0, 1, 0] 0 (kontAt (F54_E k) [1, 1, 0, 1, 0] (bodyOf Try.f54) 0 (endC (F54_E k) Try.f54 [.one (.l (.s .ro pace a0))] K)) n (F54_s0 a0 (IntKind.i64.wrap (x3_0 + ((atI a0 x8_0).1))) (IntKind.i64.wrap (x8_0 + 1))))
          (none))
        (none))
      (K (.one (.v (.int .i64 x3_0)), [])) := by kernel_rfl
theorem F54_l0_lp {β : Type} (k : Nat) (a0 : List (den pace)) (K : A × List (List Leaf) → Option β) (n : Nat) : ∀ (x3_0 : Int) (x8_0 : Int), loopG (F54_E k) Try.f54 [1, 1, 0, 1, 0] 0 (kontAt (F54_E k) [1, 1, 0, 1, 0] (bodyOf Try.f54) 0 (endC (F54_E k) Try.f54 [.one (.l (.s .ro pace a0))] K)) n (F54_s0 a0 x3_0 x8_0) =
    (F54_l0 k a0 n x3_0 x8_0).bind fun r => K (.one (.v (.int .i64 r)), []) := by
  induction n with
  | zero => intros; rfl
  | succ n ih =>
    intros
    rw [F54_l0_rd, F54_l0]
    simp only [bind_cond, Option.bind_assoc, Option.bind_some, Option.bind_none, Option.bind_fun_some, ih]
def F54 (k : Nat) (a0 : List (den pace)) : Option (Int) :=
  F54_l0 k a0 k 0 0
theorem F54_st {β : Type} (k : Nat) (a0 : List (den pace)) (K : A × List (List Leaf) → Option β) : evalF (F54_E k) Try.f54 [.one (.l (.s .ro pace a0))] K =
    loopG (F54_E k) Try.f54 [1, 1, 0, 1, 0] 0 (kontAt (F54_E k) [1, 1, 0, 1, 0] (bodyOf Try.f54) 0 (endC (F54_E k) Try.f54 [.one (.l (.s .ro pace a0))] K)) k (F54_s0 a0 0 0) := by kernel_rfl
theorem F54_ev {β : Type} (k : Nat) (a0 : List (den pace)) (K : A × List (List Leaf) → Option β) : evalF (F54_E k) Try.f54 [.one (.l (.s .ro pace a0))] K = (F54 k a0).bind fun r => K (.one (.v (.int .i64 r)), []) := by
  rw [F54_st, F54]
  simp only [bind_cond, Option.bind_assoc, Option.bind_some, Option.bind_none, Option.bind_fun_some, F54_l0_lp]
theorem F54_con (k : Nat) (a0 : List (den pace)) : Contract Try.prog 54 [.one (.l (.s .ro pace a0))] ⟨F54 k a0, fun r => (.one (.v (.int .i64 r)), [])⟩ :=
  con_of (envOk .none _ _ _ _) mixed Try.func54 rfl rfl (F54_ev k a0 some)
/-! 23: loop.example/netstack/impl.SharedAll -/
def F23_t (k : Nat) : Tab
  | 18, [.one (.l (.s .ro (.pair (.int .i64) (.pair (.int .i64) (.int .i64))) a0))] => some ⟨F18 k a0, fun r => (.one (.v (.bool r)), [])⟩
  | 54, [.one (.l (.s .ro (.pair (.int .i64) (.pair (.int .i64) (.int .i64))) a0))] => some ⟨F54 k a0, fun r => (.one (.v (.int .i64 r)), [])⟩
  | _, _ => none
abbrev F23_E (k : Nat) : Env := env (F23_t k) noHint .own [] k
def F23 (k : Nat) (a0 : List (den pace)) : Option (Int) :=
  (F18 k a0).bind fun b1 =>
    cond ((!b1))
      (some (-1))
      ((F54 k a0).bind fun b2 =>
        some b2)
theorem F23_st {β : Type} (k : Nat) (a0 : List (den pace)) (K : A × List (List Leaf) → Option β) : evalF (F23_E k) Try.f23 [.one (.l (.s .ro pace a0))] K =
    (F18 k a0).bind fun b1 =>
      cond ((!b1))
        (K (.one (.v (.int .i64 (-1))), []))
        ((F54 k a0).bind fun b2 =>
          K (.one (.v (.int .i64 b2)), [])) := by kernel_rfl
theorem F23_ev {β : Type} (k : Nat) (a0 : List (den pace)) (K : A × List (List Leaf) → Option β) : evalF (F23_E k) Try.f23 [.one (.l (.s .ro pace a0))] K = (F23 k a0).bind fun r => K (.one (.v (.int .i64 r)), []) := by
  rw [F23_st, F23]
  simp only [bind_cond, Option.bind_assoc, Option.bind_some, Option.bind_none, Option.bind_fun_some]
theorem F23_tOk (k : Nat) : TabFn Try.prog (F23_t k) := by
  constructor <;> intro f xs cr h <;> unfold F23_t at h <;> split at h <;> first | (simp only [Option.some.injEq] at h; subst h) | (simp at h; done)
  · exact F18_con _ _
  · exact F54_con _ _
  · exact .of (by kernel_rfl)
  · exact .of (by kernel_rfl)
theorem F23_con (k : Nat) (a0 : List (den pace)) : Contract Try.prog 23 [.one (.l (.s .ro pace a0))] ⟨F23 k a0, fun r => (.one (.v (.int .i64 r)), [])⟩ :=
  con_of (envOk (F23_tOk k) _ _ _ _) mixed Try.func23 rfl rfl (F23_ev k a0 some)
/-! 5: loop.example/netstack/laws.FnExactSharedAll -/
def F5_t (k : Nat) : Tab
  | 15, [.one (.l (.s .ro (.pair (.int .i64) (.pair (.int .i64) (.int .i64))) a0)), .one (.l (.v (.int .i64 a1)))] => some ⟨F15 k a0 a1, fun r => (.one (.v (.int .i64 r)), [])⟩
  | 17, [.one (.l (.s .ro (.pair (.int .i64) (.pair (.int .i64) (.int .i64))) a0))] => some ⟨F17 k a0, fun r => (.one (.s .own pace r), [])⟩
  | 22, [.one (.l (.s .ro (.pair (.int .i64) (.pair (.int .i64) (.int .i64))) a0))] => some ⟨F22 k a0, fun r => (.one (.v (.int .i64 r)), [])⟩
  | 23, [.one (.l (.s .ro (.pair (.int .i64) (.pair (.int .i64) (.int .i64))) a0))] => some ⟨F23 k a0, fun r => (.one (.v (.int .i64 r)), [])⟩
  | 19, [.one (.l (.s .ro (.pair (.int .i64) (.pair (.int .i64) (.int .i64))) a0)), .one (.l (.s .ro (.pair (.int .i64) (.pair (.int .i64) (.int .i64))) a1))] => some ⟨F19 k a0 a1, fun r => (.one (.v (.bool r)), [])⟩
  | _, _ => none
abbrev F5_E (k : Nat) : Env := env (F5_t k) noHint .own [] k
def F5 (k : Nat) (a0 : List (den pace)) : Option (Bool) :=
  (F15 k a0 1048576).bind fun b1 =>
    cond (decide (b1 < 0))
      (some true)
      ((F17 k a0).bind fun b2 =>
        (F22 k b2).bind fun b3 =>
          (F17 k a0).bind fun b4 =>
            (F23 k b4).bind fun b5 =>
              cond ((b5 != b3))
                (some false)
                ((F17 k a0).bind fun b6 =>
                  (F19 k b4 b6).bind fun b7 =>
                    cond ((!b7))
                      (some false)
                      (some true)))
theorem F5_st {β : Type} (k : Nat) (a0 : List (den pace)) (K : A × List (List Leaf) → Option β) : evalF (F5_E k) Try.f5 [.one (.l (.s .ro pace a0))] K =
    (F15 k a0 1048576).bind fun b1 =>
      cond (decide (b1 < 0))
        (K (.one (.v (.bool true)), []))
        ((F17 k a0).bind fun b2 =>
          (F22 k b2).bind fun b3 =>
            (F17 k a0).bind fun b4 =>
              (F23 k b4).bind fun b5 =>
                cond ((b5 != b3))
                  (K (.one (.v (.bool false)), []))
                  ((F17 k a0).bind fun b6 =>
                    (F19 k b4 b6).bind fun b7 =>
                      cond ((!b7))
                        (K (.one (.v (.bool false)), []))
                        (K (.one (.v (.bool true)), [])))) := by kernel_rfl
theorem F5_ev {β : Type} (k : Nat) (a0 : List (den pace)) (K : A × List (List Leaf) → Option β) : evalF (F5_E k) Try.f5 [.one (.l (.s .ro pace a0))] K = (F5 k a0).bind fun r => K (.one (.v (.bool r)), []) := by
  rw [F5_st, F5]
  simp only [bind_cond, Option.bind_assoc, Option.bind_some, Option.bind_none, Option.bind_fun_some]
theorem F5_tOk (k : Nat) : TabFn Try.prog (F5_t k) := by
  constructor <;> intro f xs cr h <;> unfold F5_t at h <;> split at h <;> first | (simp only [Option.some.injEq] at h; subst h) | (simp at h; done)
  · exact F15_con _ _ _
  · exact F17_con _ _
  · exact F22_con _ _
  · exact F23_con _ _
  · exact F19_con _ _ _
  · exact .of (by kernel_rfl)
  · exact .of (by kernel_rfl)
  · exact .of (by kernel_rfl)
  · exact .of (by kernel_rfl)
  · exact .of (by kernel_rfl)
theorem F5_con (k : Nat) (a0 : List (den pace)) : Contract Try.prog 5 [.one (.l (.s .ro pace a0))] ⟨F5 k a0, fun r => (.one (.v (.bool r)), [])⟩ :=
  con_of (envOk (F5_tOk k) _ _ _ _) mixed Try.func5 rfl rfl (F5_ev k a0 some)
/-! 60: loop.example/netstack/spec.PaceHeard -/
def F60_t (k : Nat) : Tab
  | 46, [.agg [.l (.v (.int .i64 a0_0)), .l (.v (.int .i64 a0_1)), .l (.v (.int .i64 a0_2))]] => some ⟨F46 k a0_0 a0_1 a0_2, fun r => (.one (.v (.bool r)), [])⟩
  | _, _ => none
abbrev F60_E (k : Nat) : Env := env (F60_t k) noHint .own [] k
def F60 (k : Nat) (a0_0 : Int) (a0_1 : Int) (a0_2 : Int) : Option (Int × Int × Int) :=
  (F46 k a0_0 a0_1 a0_2).bind fun b1 =>
    cond ((!b1))
      (some (0, 0, 0))
      (cond (decide (a0_0 < a0_1))
        (some (IntKind.i64.wrap (a0_0 + 1), a0_1, 0))
        (cond (decide ((IntKind.i64.wrap (a0_2 + 1)) < a0_0))
          (some (a0_0, a0_1, IntKind.i64.wrap (a0_2 + 1)))
          (some ((if 64 < (IntKind.i64.wrap (a0_0 + 1)) then 64 else IntKind.i64.wrap (a0_0 + 1)), a0_1, 0))))
theorem F60_st {β : Type} (k : Nat) (a0_0 : Int) (a0_1 : Int) (a0_2 : Int) (K : A × List (List Leaf) → Option β) : evalF (F60_E k) Try.f60 [.agg [.l (.v (.int .i64 a0_0)), .l (.v (.int .i64 a0_1)), .l (.v (.int .i64 a0_2))]] K =
    (F46 k a0_0 a0_1 a0_2).bind fun b1 =>
      cond ((!b1))
        (K (.agg [.v (.int .i64 0), .v (.int .i64 0), .v (.int .i64 0)], []))
        (cond (decide (a0_0 < a0_1))
          (K (.agg [.v (.int .i64 (IntKind.i64.wrap (a0_0 + 1))), .v (.int .i64 a0_1), .v (.int .i64 0)], []))
          (cond (decide ((IntKind.i64.wrap (a0_2 + 1)) < a0_0))
            (K (.agg [.v (.int .i64 a0_0), .v (.int .i64 a0_1), .v (.int .i64 (IntKind.i64.wrap (a0_2 + 1)))], []))
            (K (.agg [.v (.int .i64 (if 64 < (IntKind.i64.wrap (a0_0 + 1)) then 64 else IntKind.i64.wrap (a0_0 + 1))), .v (.int .i64 a0_1), .v (.int .i64 0)], [])))) := by kernel_rfl
theorem F60_ev {β : Type} (k : Nat) (a0_0 : Int) (a0_1 : Int) (a0_2 : Int) (K : A × List (List Leaf) → Option β) : evalF (F60_E k) Try.f60 [.agg [.l (.v (.int .i64 a0_0)), .l (.v (.int .i64 a0_1)), .l (.v (.int .i64 a0_2))]] K = (F60 k a0_0 a0_1 a0_2).bind fun r => K (.agg [.v (.int .i64 r.1), .v (.int .i64 r.2.1), .v (.int .i64 r.2.2)], []) := by
  rw [F60_st, F60]
  simp only [bind_cond, Option.bind_assoc, Option.bind_some, Option.bind_none, Option.bind_fun_some]
theorem F60_tOk (k : Nat) : TabFn Try.prog (F60_t k) := by
  constructor <;> intro f xs cr h <;> unfold F60_t at h <;> split at h <;> first | (simp only [Option.some.injEq] at h; subst h) | (simp at h; done)
  · exact F46_con _ _ _ _
  · exact .of (by kernel_rfl)
theorem F60_con (k : Nat) (a0_0 : Int) (a0_1 : Int) (a0_2 : Int) : Contract Try.prog 60 [.agg [.l (.v (.int .i64 a0_0)), .l (.v (.int .i64 a0_1)), .l (.v (.int .i64 a0_2))]] ⟨F60 k a0_0 a0_1 a0_2, fun r => (.agg [.v (.int .i64 r.1), .v (.int .i64 r.2.1), .v (.int .i64 r.2.2)], [])⟩ :=
  con_of (envOk (F60_tOk k) _ _ _ _) mixed Try.func60 rfl rfl (F60_ev k a0_0 a0_1 a0_2 some)
/-! 61: loop.example/netstack/spec.PaceLost -/
def F61_t (k : Nat) : Tab
  | 46, [.agg [.l (.v (.int .i64 a0_0)), .l (.v (.int .i64 a0_1)), .l (.v (.int .i64 a0_2))]] => some ⟨F46 k a0_0 a0_1 a0_2, fun r => (.one (.v (.bool r)), [])⟩
  | _, _ => none
abbrev F61_E (k : Nat) : Env := env (F61_t k) noHint .own [] k
def F61 (k : Nat) (a0_0 : Int) (a0_1 : Int) (a0_2 : Int) : Option (Int × Int × Int) :=
  (F46 k a0_0 a0_1 a0_2).bind fun b1 =>
    cond ((!b1))
      (some (0, 0, 0))
      (some ((if (IntKind.i64.wrap (a0_0.tdiv 2)) < 2 then 2 else IntKind.i64.wrap (a0_0.tdiv 2)), (if (IntKind.i64.wrap (a0_0.tdiv 2)) < 2 then 2 else IntKind.i64.wrap (a0_0.tdiv 2)), 0))
theorem F61_st {β : Type} (k : Nat) (a0_0 : Int) (a0_1 : Int) (a0_2 : Int) (K : A × List (List Leaf) → Option β) : evalF (F61_E k) Try.f61 [.agg [.l (.v (.int .i64 a0_0)), .l (.v (.int .i64 a0_1)), .l (.v (.int .i64 a0_2))]] K =
    (F46 k a0_0 a0_1 a0_2).bind fun b1 =>
      cond ((!b1))
        (K (.agg [.v (.int .i64 0), .v (.int .i64 0), .v (.int .i64 0)], []))
        (K (.agg [.v (.int .i64 (if (IntKind.i64.wrap (a0_0.tdiv 2)) < 2 then 2 else IntKind.i64.wrap (a0_0.tdiv 2))), .v (.int .i64 (if (IntKind.i64.wrap (a0_0.tdiv 2)) < 2 then 2 else IntKind.i64.wrap (a0_0.tdiv 2))), .v (.int .i64 0)], [])) := by kernel_rfl
theorem F61_ev {β : Type} (k : Nat) (a0_0 : Int) (a0_1 : Int) (a0_2 : Int) (K : A × List (List Leaf) → Option β) : evalF (F61_E k) Try.f61 [.agg [.l (.v (.int .i64 a0_0)), .l (.v (.int .i64 a0_1)), .l (.v (.int .i64 a0_2))]] K = (F61 k a0_0 a0_1 a0_2).bind fun r => K (.agg [.v (.int .i64 r.1), .v (.int .i64 r.2.1), .v (.int .i64 r.2.2)], []) := by
  rw [F61_st, F61]
  simp only [bind_cond, Option.bind_assoc, Option.bind_some, Option.bind_none, Option.bind_fun_some]
theorem F61_tOk (k : Nat) : TabFn Try.prog (F61_t k) := by
  constructor <;> intro f xs cr h <;> unfold F61_t at h <;> split at h <;> first | (simp only [Option.some.injEq] at h; subst h) | (simp at h; done)
  · exact F46_con _ _ _ _
  · exact .of (by kernel_rfl)
theorem F61_con (k : Nat) (a0_0 : Int) (a0_1 : Int) (a0_2 : Int) : Contract Try.prog 61 [.agg [.l (.v (.int .i64 a0_0)), .l (.v (.int .i64 a0_1)), .l (.v (.int .i64 a0_2))]] ⟨F61 k a0_0 a0_1 a0_2, fun r => (.agg [.v (.int .i64 r.1), .v (.int .i64 r.2.1), .v (.int .i64 r.2.2)], [])⟩ :=
  con_of (envOk (F61_tOk k) _ _ _ _) mixed Try.func61 rfl rfl (F61_ev k a0_0 a0_1 a0_2 some)
/-! 30: loop.example/netstack/spec.SharedStep -/
def F30_h : Nat → Hint
  | 0 => ⟨[(0, .plain), (6, .own .own pace []), (7, .plain), (8, .plain)], []⟩
  | 2 => ⟨[(0, .plain), (6, .plain), (7, .plain), (8, .plain), (9, .plain), (10, .plain)], [(6900, .plain), (9000, .plain), (9001, .plain), (9002, .plain)]⟩
  | _ => ⟨[], []⟩
def F30_t (k : Nat) : Tab
  | 16, [.one (.l (.s .ro (.pair (.int .i64) (.pair (.int .i64) (.int .i64))) a0))] => some ⟨F16 k a0, fun r => (.one (.v (.bool r)), [])⟩
  | 47, [.one (.l (.v (.int .i64 a0))), .one (.l (.v (.int .i64 a1))), .one (.l (.v (.int .i64 a2)))] => some ⟨F47 k a0 a1 a2, fun r => (.one (.v (.bool r)), [])⟩
  | 22, [.one (.l (.s .ro (.pair (.int .i64) (.pair (.int .i64) (.int .i64))) a0))] => some ⟨F22 k a0, fun r => (.one (.v (.int .i64 r)), [])⟩
  | 60, [.agg [.l (.v (.int .i64 a0_0)), .l (.v (.int .i64 a0_1)), .l (.v (.int .i64 a0_2))]] => some ⟨F60 k a0_0 a0_1 a0_2, fun r => (.agg [.v (.int .i64 r.1), .v (.int .i64 r.2.1), .v (.int .i64 r.2.2)], [])⟩
  | 61, [.agg [.l (.v (.int .i64 a0_0)), .l (.v (.int .i64 a0_1)), .l (.v (.int .i64 a0_2))]] => some ⟨F61 k a0_0 a0_1 a0_2, fun r => (.agg [.v (.int .i64 r.1), .v (.int .i64 r.2.1), .v (.int .i64 r.2.2)], [])⟩
  | _, _ => none
abbrev F30_E (k : Nat) : Env := env (F30_t k) F30_h .own [] k
def F30_s2 (a0 : List (den pace)) (a1 : Int) (x7_2 : Bool) (x8_2 : Int) (x10_2 : Int) (m6900_2 : List (den pace)) (m9000_2 : Int) (m9001_2 : Int) (m9002_2 : Int) : St := ⟨[.one (.s .ro pace a0), .one .d, .one .d, .one .d, .one .d, .one .d, .one (.a (.cell 6900) 0 0 none), .one (.v (.bool x7_2)), .one (.v (.int .i64 x8_2)), .one (.ptr (.cell 9000) 3 0), .one (.v (.int .i64 x10_2)), .one .d, .one .d, .one .d, .one .d, .one .d, .one .d, .one .d, .one .d, .one .d, .one .d, .one .d, .one .d, .one .d, .one .d, .one .d, .one .d, .one .d, .one .d, .one .d, .one .d, .one .d, .one .d, .one .d, .one .d, .one .d, .one .d, .one .d, .one .d, .one .d, .one .d, .one .d, .one .d, .one .d, .one .d, .one .d, .one .d, .one .d, .one .d, .one .d, .one .d, .one .d, .one .d, .one .d, .one .d], [(6900, ⟨.s .own pace m6900_2, 0, 0⟩), (9000, ⟨.v (.int .i64 m9000_2), 0, 0⟩), (9001, ⟨.v (.int .i64 m9001_2), 0, 0⟩), (9002, ⟨.v (.int .i64 m9002_2), 0, 0⟩)]⟩
def F30_l2 (k : Nat) (a0 : List (den pace)) (a1 : Int) : Nat → Bool → Int → Int → List (den pace) → Int → Int → Int → Option ((Bool × Int × Int × List (den pace) × Int × Int × Int))
  | 0, _, _, _, _, _, _, _ => none
  | n + 1, x7_2, x8_2, x10_2, m6900_2, m9000_2, m9001_2, m9002_2 =>
    cond (decide (x10_2 > 0))
      ((F60 k m9000_2 m9001_2 m9002_2).bind fun b4 =>
        F30_l2 k a0 a1 n x7_2 x8_2 (IntKind.i64.wrap (x10_2 - 1)) m6900_2 b4.1 b4.2.1 b4.2.2)
      (some (x7_2, x8_2, x10_2, m6900_2, m9000_2, m9001_2, m9002_2))
theorem F30_l2_rd {β : Type} (k n : Nat) (a0 : List (den pace)) (a1 : Int) (x7_2 : Bool) (x8_2 : Int) (x10_2 : Int) (m6900_2 : List (den pace)) (m9000_2 : Int) (m9001_2 : Int) (m9002_2 : Int) (KK : Ex → St → Option β) :
    loopG (F30_E k) Try.f30 [1, 1, 1, 1, 0, 1, 0, 0, 1, 0, 0, 1, 0, 1, 0, 1, 0] 2 KK (n + 1) (F30_s2 a0 a1 x7_2 x8_2 x10_2 m6900_2 m9000_2 m9001_2 m9002_2) =
    cond (decide (x10_2 > 0))
      ((F60 k m9000_2 m9001_2 m9002_2).bind fun b4 =>
        loopG (F30_E k) Try.f30 [1, 1, 1, 1, 0, 1, 0, 0, 1, 0, 0, 1, 0, 1, 0, 1, 0] 2 KK n (F30_s2 a0 a1 x7_2 x8_2 (IntKind.i64.wrap (x10_2 - 1)) m6900_2 b4.1 b4.2.1 b4.2.2))
      (KK (.exit 2) ⟨[.one (.s .ro pace a0), .one .d, .one .d, .one .d, .one .d, .one .d, .one (.a (.cell 6900) 0 0 none), .one (.v (.bool x7_2)), .one (.v (.int .i64 x8_2)), .one (.ptr (.cell 9000) 3 0), .one (.v (.int .i64 x10_2)), .one .d, .one .d, .one .d, .one .d, .one .d, .one .d, .one .d, .one .d, .one .d, .one .d, .one .d, .one .d, .one .d, .one .d, .one .d, .one .d, .one .d, .one .d, .one .d, .one .d, .one .d, .one .d, .one .d, .one .d, .one .d, .one .d, .one .d, .one .d, .one .d, .one .d, .one (.v (.int .i64 x10_2)), .one (.v (.bool false)), .one .d, .one .d, .one .d, .one .d, .one .d, .one .d, .one .d, .one .d, .one .d, .one .d, .one .d, .one .d], [(6900, ⟨.s .own pace m6900_2, 0, 0⟩), (9000, ⟨.v (.int .i64 m9000_2), 0, 0⟩), (9001, ⟨.v (.int .i64 m9001_2), 0, 0⟩), (9002, ⟨.v (.int .i64 m9002_2), 0, 0⟩)]⟩) := by kernel_rfl
theorem F30_l2_lp {β : Type} (k : Nat) (a0 : List (den pace)) (a1 : Int) (KK : Ex → St → Option β) (n : Nat) : ∀ (x7_2 : Bool) (x8_2 : Int) (x10_2 : Int) (m6900_2 : List (den pace)) (m9000_2 : Int) (m9001_2 : Int) (m9002_2 : Int), loopG (F30_E k) Try.f30 [1, 1, 1, 1, 0, 1, 0, 0, 1, 0, 0, 1, 0, 1, 0, 1, 0] 2 KK n (F30_s2 a0 a1 x7_2 x8_2 x10_2 m6900_2 m9000_2 m9001_2 m9002_2) =
    (F30_l2 k a0 a1 n x7_2 x8_2 x10_2 m6900_2 m9000_2 m9001_2 m9002_2).bind fun y2 => KK (.exit 2) ⟨[.one (.s .ro pace a0), .one .d, .one .d, .one .d, .one .d, .one .d, .one (.a (.cell 6900) 0 0 none), .one (.v (.bool y2.1)), .one (.v (.int .i64 y2.2.1)), .one (.ptr (.cell 9000) 3 0), .one (.v (.int .i64 y2.2.2.1)), .one .d, .one .d, .one .d, .one .d, .one .d, .one .d, .one .d, .one .d, .one .d, .one .d, .one .d, .one .d, .one .d, .one .d, .one .d, .one .d, .one .d, .one .d, .one .d, .one .d, .one .d, .one .d, .one .d, .one .d, .one .d, .one .d, .one .d, .one .d, .one .d, .one .d, .one (.v (.int .i64 y2.2.2.1)), .one (.v (.bool false)), .one .d, .one .d, .one .d, .one .d, .one .d, .one .d, .one .d, .one .d, .one .d, .one .d, .one .d, .one .d], [(6900, ⟨.s .own pace y2.2.2.2.1, 0, 0⟩), (9000, ⟨.v (.int .i64 y2.2.2.2.2.1), 0, 0⟩), (9001, ⟨.v (.int .i64 y2.2.2.2.2.2.1), 0, 0⟩), (9002, ⟨.v (.int .i64 y2.2.2.2.2.2.2), 0, 0⟩)]⟩ := by
  induction n with
  | zero => intros; rfl
  | succ n ih =>
    intros
    rw [F30_l2_rd, F30_l2]
    simp only [bind_cond, Option.bind_assoc, Option.bind_some, Option.bind_none, Option.bind_fun_some, ih]
def F30_s0 (a0 : List (den pace)) (a1 : Int) (x7_0 : Bool) (x8_0 : Int) (m6900_0 : List (den pace)) : St := ⟨[.one (.s .ro pace a0), .one .d, .one .d, .one .d, .one .d, .one .d, .one (.a (.cell 6900) 0 0 none), .one (.v (.bool x7_0)), .one (.v (.int .i64 x8_0)), .one .d, .one .d, .one .d, .one .d, .one .d, .one .d, .one .d, .one .d, .one .d, .one .d, .one .d, .one .d, .one .d, .one .d, .one .d, .one .d, .one .d, .one .d, .one .d, .one .d, .one .d, .one .d, .one .d, .one .d, .one .d, .one .d, .one .d, .one .d, .one .d, .one .d, .one .d, .one .d, .one .d, .one .d, .one .d, .one .d, .one .d, .one .d, .one .d, .one .d, .one .d, .one .d, .one .d, .one .d, .one .d, .one .d], [(6900, ⟨.s .own pace m6900_0, 0, 0⟩)]⟩
def F30_l0 (k : Nat) (a0 : List (den pace)) (a1 : Int) : Nat → Bool → Int → List (den pace) → Option (List (den pace) × Bool)
  | 0, _, _, _ => none
  | n + 1, x7_0, x8_0, m6900_0 =>
    cond (decide (x8_0 < ((a0.length : Nat) : Int)))
      (cond (decide (0 ≤ x8_0))
        (cond (decide (x8_0 < ((a0.length : Nat) : Int)))
          (cond (x7_0)
            (cond (decide (0 ≤ x8_0))
              (cond (decide (x8_0 < ((a0.length : Nat) : Int)))
                ((F30_l2 k a0 a1 k x7_0 x8_0 ((atI a0 x8_0).1) m6900_0 ((atI a0 x8_0).1) (((atI a0 x8_0).2).1) (((atI a0 x8_0).2).2)).bind fun y2 =>
                  cond (decide ((y2.2.2.2.1.length + [y2.2.2.2.2].length) * 24 ≤ 140737488355328))
                    (F30_l0 k a0 a1 n y2.1 (IntKind.i64.wrap (y2.2.1 + 1)) (y2.2.2.2.1 ++ [y2.2.2.2.2]))
                    (none))
                (none))
              (none))
            ((F61 k ((atI a0 x8_0).1) (((atI a0 x8_0).2).1) (((atI a0 x8_0).2).2)).bind fun b5 =>
              cond (decide ((m6900_0.length + [b5].length) * 24 ≤ 140737488355328))
                (F30_l0 k a0 a1 n x7_0 (IntKind.i64.wrap (x8_0 + 1)) (m6900_0 ++ [b5]))
                (none)))
          (none))
        (none))
      (some (m6900_0, x7_0))
theorem F30_l0_rd {β : Type} (k n : Nat) (a0 : List (den pace)) (a1 : Int) (x7_0 : Bool) (x8_0 : Int) (m6900_0 : List (den pace)) (K : A × List (List Leaf) → Option β) :
    loopG (F30_E k) Try.f30 [1, 1, 1, 1, 0, 1, 0] 0 (kontAt (F30_E k) [1, 1, 1, 1, 0, 1, 0] (bodyOf Try.f30) 0 (endC (F30_E k) Try.f30 [.one (.l (.s .ro pace a0)), .one (.l (.v (.int .i64 a1)))] K)) (n + 1) (F30_s0 a0 a1 x7_0 x8_0 m6900_0) =
    cond (decide (x8_0 < ((a0.length : Nat) : Int)))
      (cond (decide (0 ≤ x8_0))
        (cond (decide (x8_0 < ((a0.length : Nat) : Int)))
          (cond (x7_0)
            (cond (decide (0 ≤ x8_0))
              (cond (decide (x8_0 < ((a0.length : Nat) : Int)))
                (loopG (F30_E k) Try.f30 [1, 1, 1, 1, 0, 1, 0, 0, 1, 0, 0, 1, 0, 1, 0, 1, 0] 2 (kontAt (F30_E k) [1, 0, 0, 1, 0, 1, 0, 1, 0] (codeAt [1, 1, 1, 1, 0, 1, 0, 0] (bodyOf Try.f30)) 0 (roundG (F30_E k) Try.f30 [1, 1, 1, 1, 0, 1, 0] 0 (kontAt (F30_E k) [1, 1, 1, 1, 0, 1, 0] (bodyOf Try.f30) 0 (endC (F30_E k) Try.f30 [.one (.l (.s .ro pace a0)), .one (.l (.v (.int .i64 a1)))] K)) n)) k (F30_s2 a0 a1 x7_0 x8_0 ((atI a0 x8_0).1) m6900_0 ((atI a0 x8_0).1) (((atI a0 x8_0).2).1) (((atI a0 x8_0).2).2)))
                (none))
              (none))
            ((F61 k ((atI a0 x8_0).1) (((atI a0 x8_0).2).1) (((atI a0 x8_0).2).2)).bind fun b5 =>
              cond (decide ((m6900_0.length + [b5].length) * 24 ≤ 140737488355328))
                (loopG (F30_E k) Try.f30 [1, 1, 1, 1, 0, 1, 0] 0 (kontAt (F30_E k) [1, 1, 1, 1, 0, 1, 0] (bodyOf Try.f30) 0 (endC (F30_E k) Try.f30 [.one (.l (.s .ro pace a0)), .one (.l (.v (.int .i64 a1)))] K)) n (F30_s0 a0 a1 x7_0 (IntKind.i64.wrap (x8_0 + 1)) (m6900_0 ++ [b5])))
                (none)))
          (none))
        (none))
      (K (.tup [(false, [.s .own pace m6900_0]), (false, [.v (.bool x7_0)])], [])) := by kernel_rfl
theorem F30_l0_k0_0 {β : Type} (k n : Nat) (a0 : List (den pace)) (a1 : Int) (y2 : Bool × Int × Int × List (den pace) × Int × Int × Int) (K : A × List (List Leaf) → Option β) :
    (kontAt (F30_E k) [1, 0, 0, 1, 0, 1, 0, 1, 0] (codeAt [1, 1, 1, 1, 0, 1, 0, 0] (bodyOf Try.f30)) 0 (roundG (F30_E k) Try.f30 [1, 1, 1, 1, 0, 1, 0] 0 (kontAt (F30_E k) [1, 1, 1, 1, 0, 1, 0] (bodyOf Try.f30) 0 (endC (F30_E k) Try.f30 [.one (.l (.s .ro pace a0)), .one (.l (.v (.int .i64 a1)))] K)) n)) (.exit 2) ⟨[.one (.s .ro pace a0), .one .d, .one .d, .one .d, .one .d, .one .d, .one (.a (.cell 6900) 0 0 none), .one (.v (.bool y2.1)), .one (.v (.int .i64 y2.2.1)), .one (.ptr (.cell 9000) 3 0), .one (.v (.int .i64 y2.2.2.1)), .one .d, .one .d, .one .d, .one .d, .one .d, .one .d, .one .d, .one .d, .one .d, .one .d, .one .d, .one .d, .one .d, .one .d, .one .d, .one .d, .one .d, .one .d, .one .d, .one .d, .one .d, .one .d, .one .d, .one .d, .one .d, .one .d, .one .d, .one .d, .one .d, .one .d, .one (.v (.int .i64 y2.2.2.1)), .one (.v (.bool false)), .one .d, .one .d, .one .d, .one .d, .one .d, .one .d, .one .d, .one .d, .one .d, .one .d, .one .d, .one .d], [(6900, ⟨.s .own pace y2.2.2.2.1, 0, 0⟩), (9000, ⟨.v (.int .i64 y2.2.2.2.2.1), 0, 0⟩), (9001, ⟨.v (.int .i64 y2.2.2.2.2.2.1), 0, 0⟩), (9002, ⟨.v (.int .i64 y2.2.2.2.2.2.2), 0, 0⟩)]⟩ =
    cond (decide ((y2.2.2.2.1.length + [y2.2.2.2.2].length) * 24 ≤ 140737488355328))
      (loopG (F30_E k) Try.f30 [1, 1, 1, 1, 0, 1, 0] 0 (kontAt (F30_E k) [1, 1, 1, 1, 0, 1, 0] (bodyOf Try.f30) 0 (endC (F30_E k) Try.f30 [.one (.l (.s .ro pace a0)), .one (.l (.v (.int .i64 a1)))] K)) n (F30_s0 a0 a1 y2.1 (IntKind.i64.wrap (y2.2.1 + 1)) (y2.2.2.2.1 ++ [y2.2.2.2.2])))
      (none) := by kernel_rfl
theorem F30_l0_lp {β : Type} (k : Nat) (a0 : List (den pace)) (a1 : Int) (K : A × List (List Leaf) → Option β) (n : Nat) : ∀ (x7_0 : Bool) (x8_0 : Int) (m6900_0 : List (den pace)), loopG (F30_E k) Try.f30 [1, 1, 1, 1, 0, 1, 0] 0 (kontAt (F30_E k) [1, 1, 1, 1, 0, 1, 0] (bodyOf Try.f30) 0 (endC (F30_E k) Try.f30 [.one (.l (.s .ro pace a0)), .one (.l (.v (.int .i64 a1)))] K)) n (F30_s0 a0 a1 x7_0 x8_0 m6900_0) =
    (F30_l0 k a0 a1 n x7_0 x8_0 m6900_0).bind fun r => K (.tup [(false, [.s .own pace r.1]), (false, [.v (.bool r.2)])], []) := by
  induction n with
  | zero => intros; rfl
  | succ n ih =>
    intros
    rw [F30_l0_rd, F30_l0]
    simp only [bind_cond, Option.bind_assoc, Option.bind_some, Option.bind_none, Option.bind_fun_some, F30_l2_lp, F30_l0_k0_0, ih]
def F30 (k : Nat) (a0 : List (den pace)) (a1 : Int) : Option (List (den pace) × Bool) :=
  (F16 k a0).bind fun b1 =>
    cond ((!b1))
      (some ([], false))
      ((F47 k a1 1 1000).bind fun b2 =>
        cond ((!b2))
          (some ([], false))
          ((F22 k a0).bind fun b3 =>
            F30_l0 k a0 a1 k (decide (b3 ≤ a1)) 0 []))
theorem F30_st {β : Type} (k : Nat) (a0 : List (den pace)) (a1 : Int) (K : A × List (List Leaf) → Option β) : evalF (F30_E k) Try.f30 [.one (.l (.s .ro pace a0)), .one (.l (.v (.int .i64 a1)))] K =
    (F16 k a0).bind fun b1 =>
      cond ((!b1))
        (K (.tup [(false, [.s .own pace []]), (false, [.v (.bool false)])], []))
        ((F47 k a1 1 1000).bind fun b2 =>
          cond ((!b2))
            (K (.tup [(false, [.s .own pace []]), (false, [.v (.bool false)])], []))
            ((F22 k a0).bind fun b3 =>
              loopG (F30_E k) Try.f30 [1, 1, 1, 1, 0, 1, 0] 0 (kontAt (F30_E k) [1, 1, 1, 1, 0, 1, 0] (bodyOf Try.f30) 0 (endC (F30_E k) Try.f30 [.one (.l (.s .ro pace a0)), .one (.l (.v (.int .i64 a1)))] K)) k (F30_s0 a0 a1 (decide (b3 ≤ a1)) 0 []))) := by kernel_rfl
theorem F30_ev {β : Type} (k : Nat) (a0 : List (den pace)) (a1 : Int) (K : A × List (List Leaf) → Option β) : evalF (F30_E k) Try.f30 [.one (.l (.s .ro pace a0)), .one (.l (.v (.int .i64 a1)))] K = (F30 k a0 a1).bind fun r => K (.tup [(false, [.s .own pace r.1]), (false, [.v (.bool r.2)])], []) := by
  rw [F30_st, F30]
  simp only [bind_cond, Option.bind_assoc, Option.bind_some, Option.bind_none, Option.bind_fun_some, F30_l0_lp]
theorem F30_tOk (k : Nat) : TabFn Try.prog (F30_t k) := by
  constructor <;> intro f xs cr h <;> unfold F30_t at h <;> split at h <;> first | (simp only [Option.some.injEq] at h; subst h) | (simp at h; done)
  · exact F16_con _ _
  · exact F47_con _ _ _ _
  · exact F22_con _ _
  · exact F60_con _ _ _ _
  · exact F61_con _ _ _ _
  · exact .of (by kernel_rfl)
  · exact .of (by kernel_rfl)
  · exact .of (by kernel_rfl)
  · exact .of (by kernel_rfl)
  · exact .of (by kernel_rfl)
theorem F30_con (k : Nat) (a0 : List (den pace)) (a1 : Int) : Contract Try.prog 30 [.one (.l (.s .ro pace a0)), .one (.l (.v (.int .i64 a1)))] ⟨F30 k a0 a1, fun r => (.tup [(false, [.s .own pace r.1]), (false, [.v (.bool r.2)])], [])⟩ :=
  con_of (envOk (F30_tOk k) _ _ _ _) mixed Try.func30 rfl rfl (F30_ev k a0 a1 some)
/-! 86: slices.Clip[[]loop.example/netstack/impl.Pace,loop.example/netstack/impl.Pace] -/
abbrev F86_E (k : Nat) : Env := env noTab noHint .own [] k
def F86 (k : Nat) (a0 : List (den pace)) : Option (List (den pace)) :=
  cond ((decide (0 ≤ ((a0.length : Nat) : Int)) && decide (((a0.length : Nat) : Int) ≤ ((a0.length : Nat) : Int))))
    (cond (decide (((a0.length : Nat) : Int) = ((a0.length : Nat) : Int)))
      (some ((a0.take (((a0.length : Nat) : Int).toNat)).drop 0))
      (none))
    (none)
theorem F86_st {β : Type} (k : Nat) (a0 : List (den pace)) (K : A × List (List Leaf) → Option β) : evalF (F86_E k) Try.f86 [.one (.l (.s .own pace a0))] K =
    cond ((decide (0 ≤ ((a0.length : Nat) : Int)) && decide (((a0.length : Nat) : Int) ≤ ((a0.length : Nat) : Int))))
      (cond (decide (((a0.length : Nat) : Int) = ((a0.length : Nat) : Int)))
        (K (.one (.s .own pace ((a0.take (((a0.length : Nat) : Int).toNat)).drop 0)), []))
        (none))
      (none) := by kernel_rfl
theorem F86_ev {β : Type} (k : Nat) (a0 : List (den pace)) (K : A × List (List Leaf) → Option β) : evalF (F86_E k) Try.f86 [.one (.l (.s .own pace a0))] K = (F86 k a0).bind fun r => K (.one (.s .own pace r), []) := by
  rw [F86_st, F86]
  simp only [bind_cond, Option.bind_assoc, Option.bind_some, Option.bind_none, Option.bind_fun_some]
theorem F86_con (k : Nat) (a0 : List (den pace)) : Contract Try.prog 86 [.one (.l (.s .own pace a0))] ⟨F86 k a0, fun r => (.one (.s .own pace r), [])⟩ :=
  con_of (envOk .none _ _ _ _) mixed Try.func86 rfl rfl (F86_ev k a0 some)
/-! 62: loop.example/netstack/impl.clone[loop.example/netstack/impl.Pace] -/
def F62_t (k : Nat) : Tab
  | 86, [.one (.l (.s .own (.pair (.int .i64) (.pair (.int .i64) (.int .i64))) a0))] => some ⟨F86 k a0, fun r => (.one (.s .own pace r), [])⟩
  | _, _ => none
abbrev F62_E (k : Nat) : Env := env (F62_t k) noHint .own [] k
def F62 (k : Nat) (a0 : List (den pace)) : Option (List (den pace)) :=
  cond ((((a0.length : Nat) : Int) == 0))
    (some [])
    (cond (decide ((([] : List (den pace)).length + a0.length) * 24 ≤ 140737488355328))
      ((F86 k ([] ++ a0)).bind fun b1 =>
        some b1)
      (none))
theorem F62_st {β : Type} (k : Nat) (a0 : List (den pace)) (K : A × List (List Leaf) → Option β) : evalF (F62_E k) Try.f62 [.one (.l (.s .ro pace a0))] K =
    cond ((((a0.length : Nat) : Int) == 0))
      (K (.one (.s .own pace []), []))
      (cond (decide ((([] : List (den pace)).length + a0.length) * 24 ≤ 140737488355328))
        ((F86 k ([] ++ a0)).bind fun b1 =>
          K (.one (.s .own pace b1), []))
        (none)) := by kernel_rfl
theorem F62_ev {β : Type} (k : Nat) (a0 : List (den pace)) (K : A × List (List Leaf) → Option β) : evalF (F62_E k) Try.f62 [.one (.l (.s .ro pace a0))] K = (F62 k a0).bind fun r => K (.one (.s .own pace r), []) := by
  rw [F62_st, F62]
  simp only [bind_cond, Option.bind_assoc, Option.bind_some, Option.bind_none, Option.bind_fun_some]
theorem F62_tOk (k : Nat) : TabFn Try.prog (F62_t k) := by
  constructor <;> intro f xs cr h <;> unfold F62_t at h <;> split at h <;> first | (simp only [Option.some.injEq] at h; subst h) | (simp at h; done)
  · exact F86_con _ _
  · exact .of (by kernel_rfl)
theorem F62_con (k : Nat) (a0 : List (den pace)) : Contract Try.prog 62 [.one (.l (.s .ro pace a0))] ⟨F62 k a0, fun r => (.one (.s .own pace r), [])⟩ :=
  con_of (envOk (F62_tOk k) _ _ _ _) mixed Try.func62 rfl rfl (F62_ev k a0 some)
/-! 84: loop.example/netstack/impl.PaceLost -/
def F84_t (k : Nat) : Tab
  | 52, [.agg [.l (.v (.int .i64 a0_0)), .l (.v (.int .i64 a0_1)), .l (.v (.int .i64 a0_2))]] => some ⟨F52 k a0_0 a0_1 a0_2, fun r => (.one (.v (.bool r)), [])⟩
  | _, _ => none
abbrev F84_E (k : Nat) : Env := env (F84_t k) noHint .own [] k
def F84 (k : Nat) (a0_0 : Int) (a0_1 : Int) (a0_2 : Int) : Option (Int × Int × Int) :=
  (F52 k a0_0 a0_1 a0_2).bind fun b1 =>
    cond ((!b1))
      (some (0, 0, 0))
      (some ((if 2 < (IntKind.i64.wrap (a0_0.tdiv 2)) then IntKind.i64.wrap (a0_0.tdiv 2) else 2), (if 2 < (IntKind.i64.wrap (a0_0.tdiv 2)) then IntKind.i64.wrap (a0_0.tdiv 2) else 2), 0))
theorem F84_st {β : Type} (k : Nat) (a0_0 : Int) (a0_1 : Int) (a0_2 : Int) (K : A × List (List Leaf) → Option β) : evalF (F84_E k) Try.f84 [.agg [.l (.v (.int .i64 a0_0)), .l (.v (.int .i64 a0_1)), .l (.v (.int .i64 a0_2))]] K =
    (F52 k a0_0 a0_1 a0_2).bind fun b1 =>
      cond ((!b1))
        (K (.agg [.v (.int .i64 0), .v (.int .i64 0), .v (.int .i64 0)], []))
        (K (.agg [.v (.int .i64 (if 2 < (IntKind.i64.wrap (a0_0.tdiv 2)) then IntKind.i64.wrap (a0_0.tdiv 2) else 2)), .v (.int .i64 (if 2 < (IntKind.i64.wrap (a0_0.tdiv 2)) then IntKind.i64.wrap (a0_0.tdiv 2) else 2)), .v (.int .i64 0)], [])) := by kernel_rfl
theorem F84_ev {β : Type} (k : Nat) (a0_0 : Int) (a0_1 : Int) (a0_2 : Int) (K : A × List (List Leaf) → Option β) : evalF (F84_E k) Try.f84 [.agg [.l (.v (.int .i64 a0_0)), .l (.v (.int .i64 a0_1)), .l (.v (.int .i64 a0_2))]] K = (F84 k a0_0 a0_1 a0_2).bind fun r => K (.agg [.v (.int .i64 r.1), .v (.int .i64 r.2.1), .v (.int .i64 r.2.2)], []) := by
  rw [F84_st, F84]
  simp only [bind_cond, Option.bind_assoc, Option.bind_some, Option.bind_none, Option.bind_fun_some]
theorem F84_tOk (k : Nat) : TabFn Try.prog (F84_t k) := by
  constructor <;> intro f xs cr h <;> unfold F84_t at h <;> split at h <;> first | (simp only [Option.some.injEq] at h; subst h) | (simp at h; done)
  · exact F52_con _ _ _ _
  · exact .of (by kernel_rfl)
theorem F84_con (k : Nat) (a0_0 : Int) (a0_1 : Int) (a0_2 : Int) : Contract Try.prog 84 [.agg [.l (.v (.int .i64 a0_0)), .l (.v (.int .i64 a0_1)), .l (.v (.int .i64 a0_2))]] ⟨F84 k a0_0 a0_1 a0_2, fun r => (.agg [.v (.int .i64 r.1), .v (.int .i64 r.2.1), .v (.int .i64 r.2.2)], [])⟩ :=
  con_of (envOk (F84_tOk k) _ _ _ _) mixed Try.func84 rfl rfl (F84_ev k a0_0 a0_1 a0_2 some)
/-! 85: loop.example/netstack/impl.PaceHeard -/
def F85_t (k : Nat) : Tab
  | 52, [.agg [.l (.v (.int .i64 a0_0)), .l (.v (.int .i64 a0_1)), .l (.v (.int .i64 a0_2))]] => some ⟨F52 k a0_0 a0_1 a0_2, fun r => (.one (.v (.bool r)), [])⟩
  | _, _ => none
abbrev F85_E (k : Nat) : Env := env (F85_t k) noHint .own [] k
def F85 (k : Nat) (a0_0 : Int) (a0_1 : Int) (a0_2 : Int) : Option (Int × Int × Int) :=
  (F52 k a0_0 a0_1 a0_2).bind fun b1 =>
    cond ((!b1))
      (some (0, 0, 0))
      (cond (decide (a0_0 < a0_1))
        (some (IntKind.i64.wrap (a0_0 + 1), a0_1, 0))
        (cond (decide ((IntKind.i64.wrap (a0_2 + 1)) < a0_0))
          (some (a0_0, a0_1, IntKind.i64.wrap (a0_2 + 1)))
          (some ((if (IntKind.i64.wrap (a0_0 + 1)) < 64 then IntKind.i64.wrap (a0_0 + 1) else 64), a0_1, 0))))
theorem F85_st {β : Type} (k : Nat) (a0_0 : Int) (a0_1 : Int) (a0_2 : Int) (K : A × List (List Leaf) → Option β) : evalF (F85_E k) Try.f85 [.agg [.l (.v (.int .i64 a0_0)), .l (.v (.int .i64 a0_1)), .l (.v (.int .i64 a0_2))]] K =
    (F52 k a0_0 a0_1 a0_2).bind fun b1 =>
      cond ((!b1))
        (K (.agg [.v (.int .i64 0), .v (.int .i64 0), .v (.int .i64 0)], []))
        (cond (decide (a0_0 < a0_1))
          (K (.agg [.v (.int .i64 (IntKind.i64.wrap (a0_0 + 1))), .v (.int .i64 a0_1), .v (.int .i64 0)], []))
          (cond (decide ((IntKind.i64.wrap (a0_2 + 1)) < a0_0))
            (K (.agg [.v (.int .i64 a0_0), .v (.int .i64 a0_1), .v (.int .i64 (IntKind.i64.wrap (a0_2 + 1)))], []))
            (K (.agg [.v (.int .i64 (if (IntKind.i64.wrap (a0_0 + 1)) < 64 then IntKind.i64.wrap (a0_0 + 1) else 64)), .v (.int .i64 a0_1), .v (.int .i64 0)], [])))) := by kernel_rfl
theorem F85_ev {β : Type} (k : Nat) (a0_0 : Int) (a0_1 : Int) (a0_2 : Int) (K : A × List (List Leaf) → Option β) : evalF (F85_E k) Try.f85 [.agg [.l (.v (.int .i64 a0_0)), .l (.v (.int .i64 a0_1)), .l (.v (.int .i64 a0_2))]] K = (F85 k a0_0 a0_1 a0_2).bind fun r => K (.agg [.v (.int .i64 r.1), .v (.int .i64 r.2.1), .v (.int .i64 r.2.2)], []) := by
  rw [F85_st, F85]
  simp only [bind_cond, Option.bind_assoc, Option.bind_some, Option.bind_none, Option.bind_fun_some]
theorem F85_tOk (k : Nat) : TabFn Try.prog (F85_t k) := by
  constructor <;> intro f xs cr h <;> unfold F85_t at h <;> split at h <;> first | (simp only [Option.some.injEq] at h; subst h) | (simp at h; done)
  · exact F52_con _ _ _ _
  · exact .of (by kernel_rfl)
theorem F85_con (k : Nat) (a0_0 : Int) (a0_1 : Int) (a0_2 : Int) : Contract Try.prog 85 [.agg [.l (.v (.int .i64 a0_0)), .l (.v (.int .i64 a0_1)), .l (.v (.int .i64 a0_2))]] ⟨F85 k a0_0 a0_1 a0_2, fun r => (.agg [.v (.int .i64 r.1), .v (.int .i64 r.2.1), .v (.int .i64 r.2.2)], [])⟩ :=
  con_of (envOk (F85_tOk k) _ _ _ _) mixed Try.func85 rfl rfl (F85_ev k a0_0 a0_1 a0_2 some)
/-! 59: loop.example/netstack/impl.sharedStep -/
def F59_h : Nat → Hint
  | 0 => ⟨[(6, .plain), (7, .plain), (16, .plain), (17, .plain), (18, .plain)], [(15000, .plain)]⟩
  | 2 => ⟨[(6, .plain), (7, .plain), (8, .plain), (16, .plain), (17, .plain), (18, .plain), (31, .plain), (32, .plain)], [(15000, .plain)]⟩
  | _ => ⟨[], []⟩
def F59_t (k : Nat) : Tab
  | 54, [.one (.l (.s .ro (.pair (.int .i64) (.pair (.int .i64) (.int .i64))) a0))] => some ⟨F54 k a0, fun r => (.one (.v (.int .i64 r)), [])⟩
  | 62, [.one (.l (.s .ro (.pair (.int .i64) (.pair (.int .i64) (.int .i64))) a0))] => some ⟨F62 k a0, fun r => (.one (.s .own pace r), [])⟩
  | 84, [.agg [.l (.v (.int .i64 a0_0)), .l (.v (.int .i64 a0_1)), .l (.v (.int .i64 a0_2))]] => some ⟨F84 k a0_0 a0_1 a0_2, fun r => (.agg [.v (.int .i64 r.1), .v (.int .i64 r.2.1), .v (.int .i64 r.2.2)], [])⟩
  | 85, [.agg [.l (.v (.int .i64 a0_0)), .l (.v (.int .i64 a0_1)), .l (.v (.int .i64 a0_2))]] => some ⟨F85 k a0_0 a0_1 a0_2, fun r => (.agg [.v (.int .i64 r.1), .v (.int .i64 r.2.1), .v (.int .i64 r.2.2)], [])⟩
  | _, _ => none
abbrev F59_E (k : Nat) : Env := env (F59_t k) F59_h .own [] k
def F59_s2 (a0 : List (den pace)) (a1 : Int) (x6_2 : Bool) (x8_2 : Int) (x17_2 : Int) (x18_2 : Int) (x31_2 : Int) (x32_2 : Int) (m15000_2 : List (den pace)) : St := ⟨[.one .d, .one .d, .one .d, .one .d, .one .d, .one .d, .one (.v (.bool x6_2)), .one (.a (.cell 15000) 0 0 none), .one (.v (.int .i64 x8_2)), .one .d, .one .d, .one .d, .one .d, .one .d, .one .d, .one .d, .one (.a (.cell 15000) 0 0 none), .one (.v (.int .i64 x17_2)), .one (.v (.int .i64 x18_2)), .one .d, .one .d, .one .d, .one .d, .one .d, .one .d, .one .d, .one .d, .one .d, .one .d, .one .d, .one .d, .one (.v (.int .i64 x31_2)), .one (.v (.int .i64 x32_2)), .one .d, .one .d, .one .d, .one .d, .one .d, .one .d, .one .d, .one .d, .one .d, .one .d, .one .d, .one .d, .one .d], [(15000, ⟨.s .own pace m15000_2, 0, 0⟩)]⟩
def F59_l2 (k : Nat) (a0 : List (den pace)) (a1 : Int) : Nat → Bool → Int → Int → Int → Int → Int → List (den pace) → Option ((Bool × Int × Int × Int × Int × Int × List (den pace)))
  | 0, _, _, _, _, _, _, _ => none
  | n + 1, x6_2, x8_2, x17_2, x18_2, x31_2, x32_2, m15000_2 =>
    cond (decide (x32_2 < x31_2))
      (cond (decide (0 ≤ x8_2))
        (cond (decide (x8_2 < ((m15000_2.length : Nat) : Int)))
          ((F85 k ((atI m15000_2 x8_2).1) (((atI m15000_2 x8_2).2).1) (((atI m15000_2 x8_2).2).2)).bind fun b4 =>
            cond (decide (0 ≤ x8_2))
              (cond (decide (x8_2 < ((m15000_2.length : Nat) : Int)))
                (F59_l2 k a0 a1 n x6_2 x8_2 x17_2 x18_2 x31_2 (IntKind.i64.wrap (x32_2 + 1)) (m15000_2.set x8_2.toNat b4))
                (none))
              (none))
          (none))
        (none))
      (some (x6_2, x8_2, x17_2, x18_2, x31_2, x32_2, m15000_2))
theorem F59_l2_rd {β : Type} (k n : Nat) (a0 : List (den pace)) (a1 : Int) (x6_2 : Bool) (x8_2 : Int) (x17_2 : Int) (x18_2 : Int) (x31_2 : Int) (x32_2 : Int) (m15000_2 : List (den pace)) (KK : Ex → St → Option β) :
    loopG (F59_E k) Try.f59 [1, 1, 1, 0, 1, 0, 0, 1, 1, 0, 0, 1, 1, 1, 0] 2 KK (n + 1) (F59_s2 a0 a1 x6_2 x8_2 x17_2 x18_2 x31_2 x32_2 m15000_2) =
    cond (decide (x32_2 < x31_2))
      (cond (decide (0 ≤ x8_2))
        (cond (decide (x8_2 < ((m15000_2.length : Nat) : Int)))
          ((F85 k ((atI m15000_2 x8_2).1) (((atI m15000_2 x8_2).2).1) (((atI m15000_2 x8_2).2).2)).bind fun b4 =>
            cond (decide (0 ≤ x8_2))
              (cond (decide (x8_2 < ((m15000_2.length : Nat) : Int)))
                (loopG (F59_E k) Try.f59 [1, 1, 1, 0, 1, 0, 0, 1, 1, 0, 0, 1, 1, 1, 0] 2 KK n (F59_s2 a0 a1 x6_2 x8_2 x17_2 x18_2 x31_2 (IntKind.i64.wrap (x32_2 + 1)) (m15000_2.set x8_2.toNat b4)))
                (none))
              (none))
          (none))
        (none))
      (KK (.exit 2) ⟨[.one .d, .one .d, .one .d, .one .d, .one .d, .one .d, .one (.v (.bool x6_2)), .one (.a (.cell 15000) 0 0 none), .one (.v (.int .i64 x8_2)), .one .d, .one .d, .one .d, .one .d, .one .d, .one .d, .one .d, .one (.a (.cell 15000) 0 0 none), .one (.v (.int .i64 x17_2)), .one (.v (.int .i64 x18_2)), .one .d, .one .d, .one .d, .one .d, .one .d, .one .d, .one .d, .one .d, .one .d, .one .d, .one .d, .one .d, .one (.v (.int .i64 x31_2)), .one (.v (.int .i64 x32_2)), .one (.v (.bool false)), .one .d, .one .d, .one .d, .one .d, .one .d, .one .d, .one .d, .one .d, .one .d, .one .d, .one .d, .one .d], [(15000, ⟨.s .own pace m15000_2, 0, 0⟩)]⟩) := by kernel_rfl
theorem F59_l2_lp {β : Type} (k : Nat) (a0 : List (den pace)) (a1 : Int) (KK : Ex → St → Option β) (n : Nat) : ∀ (x6_2 : Bool) (x8_2 : Int) (x17_2 : Int) (x18_2 : Int) (x31_2 : Int) (x32_2 : Int) (m15000_2 : List (den pace)), loopG (F59_E k) Try.f59 [1, 1, 1, 0, 1, 0, 0, 1, 1, 0, 0, 1, 1, 1, 0] 2 KK n (F59_s2 a0 a1 x6_2 x8_2 x17_2 x18_2 x31_2 x32_2 m15000_2) =
    (F59_l2 k a0 a1 n x6_2 x8_2 x17_2 x18_2 x31_2 x32_2 m15000_2).bind fun y2 => KK (.exit 2) ⟨[.one .d, .one .d, .one .d, .one .d, .one .d, .one .d, .one (.v (.bool y2.1)), .one (.a (.cell 15000) 0 0 none), .one (.v (.int .i64 y2.2.1)), .one .d, .one .d, .one .d, .one .d, .one .d, .one .d, .one .d, .one (.a (.cell 15000) 0 0 none), .one (.v (.int .i64 y2.2.2.1)), .one (.v (.int .i64 y2.2.2.2.1)), .one .d, .one .d, .one .d, .one .d, .one .d, .one .d, .one .d, .one .d, .one .d, .one .d, .one .d, .one .d, .one (.v (.int .i64 y2.2.2.2.2.1)), .one (.v (.int .i64 y2.2.2.2.2.2.1)), .one (.v (.bool false)), .one .d, .one .d, .one .d, .one .d, .one .d, .one .d, .one .d, .one .d, .one .d, .one .d, .one .d, .one .d], [(15000, ⟨.s .own pace y2.2.2.2.2.2.2, 0, 0⟩)]⟩ := by
  induction n with
  | zero => intros; rfl
  | succ n ih =>
    intros
    rw [F59_l2_rd, F59_l2]
    simp only [bind_cond, Option.bind_assoc, Option.bind_some, Option.bind_none, Option.bind_fun_some, ih]
def F59_s0 (a0 : List (den pace)) (a1 : Int) (x6_0 : Bool) (x17_0 : Int) (x18_0 : Int) (m15000_0 : List (den pace)) : St := ⟨[.one .d, .one .d, .one .d, .one .d, .one .d, .one .d, .one (.v (.bool x6_0)), .one (.a (.cell 15000) 0 0 none), .one .d, .one .d, .one .d, .one .d, .one .d, .one .d, .one .d, .one .d, .one (.a (.cell 15000) 0 0 none), .one (.v (.int .i64 x17_0)), .one (.v (.int .i64 x18_0)), .one .d, .one .d, .one .d, .one .d, .one .d, .one .d, .one .d, .one .d, .one .d, .one .d, .one .d, .one .d, .one .d, .one .d, .one .d, .one .d, .one .d, .one .d, .one .d, .one .d, .one .d, .one .d, .one .d, .one .d, .one .d, .one .d, .one .d], [(15000, ⟨.s .own pace m15000_0, 0, 0⟩)]⟩
def F59_l0 (k : Nat) (a0 : List (den pace)) (a1 : Int) : Nat → Bool → Int → Int → List (den pace) → Option (List (den pace) × Bool)
  | 0, _, _, _, _ => none
  | n + 1, x6_0, x17_0, x18_0, m15000_0 =>
    cond (decide (x18_0 < x17_0))
      (cond (decide (0 ≤ x18_0))
        (cond (decide (x18_0 < ((m15000_0.length : Nat) : Int)))
          (cond ((!x6_0))
            ((F84 k ((atI m15000_0 x18_0).1) (((atI m15000_0 x18_0).2).1) (((atI m15000_0 x18_0).2).2)).bind fun b3 =>
              cond (decide (0 ≤ x18_0))
                (cond (decide (x18_0 < ((m15000_0.length : Nat) : Int)))
                  (F59_l0 k a0 a1 n x6_0 x17_0 (IntKind.i64.wrap (x18_0 + 1)) (m15000_0.set x18_0.toNat b3))
                  (none))
                (none))
            ((F59_l2 k a0 a1 k x6_0 x18_0 x17_0 x18_0 ((atI m15000_0 x18_0).1) 0 m15000_0).bind fun y2 =>
              F59_l0 k a0 a1 n y2.1 y2.2.2.1 (IntKind.i64.wrap (y2.2.2.2.1 + 1)) y2.2.2.2.2.2.2))
          (none))
        (none))
      (some (m15000_0, x6_0))
theorem F59_l0_rd {β : Type} (k n : Nat) (a0 : List (den pace)) (a1 : Int) (x6_0 : Bool) (x17_0 : Int) (x18_0 : Int) (m15000_0 : List (den pace)) (K : A × List (List Leaf) → Option β) :
    loopG (F59_E k) Try.f59 [1, 1, 1, 0, 1, 0] 0 (kontAt (F59_E k) [1, 1, 1, 0, 1, 0] (bodyOf Try.f59) 0 (endC (F59_E k) Try.f59 [.one (.l (.s .ro pace a0)), .one (.l (.v (.int .i64 a1)))] K)) (n + 1) (F59_s0 a0 a1 x6_0 x17_0 x18_0 m15000_0) =
    cond (decide (x18_0 < x17_0))
      (cond (decide (0 ≤ x18_0))
        (cond (decide (x18_0 < ((m15000_0.length : Nat) : Int)))
          (cond ((!x6_0))
            ((F84 k ((atI m15000_0 x18_0).1) (((atI m15000_0 x18_0).2).1) (((atI m15000_0 x18_0).2).2)).bind fun b3 =>
              cond (decide (0 ≤ x18_0))
                (cond (decide (x18_0 < ((m15000_0.length : Nat) : Int)))
                  (loopG (F59_E k) Try.f59 [1, 1, 1, 0, 1, 0] 0 (kontAt (F59_E k) [1, 1, 1, 0, 1, 0] (bodyOf Try.f59) 0 (endC (F59_E k) Try.f59 [.one (.l (.s .ro pace a0)), .one (.l (.v (.int .i64 a1)))] K)) n (F59_s0 a0 a1 x6_0 x17_0 (IntKind.i64.wrap (x18_0 + 1)) (m15000_0.set x18_0.toNat b3)))
                  (none))
                (none))
            (loopG (F59_E k) Try.f59 [1, 1, 1, 0, 1, 0, 0, 1, 1, 0, 0, 1, 1, 1, 0] 2 (kontAt (F59_E k) [1, 1, 0, 0, 1, 1, 1, 0] (codeAt [1, 1, 1, 0, 1, 0, 0] (bodyOf Try.f59)) 0 (roundG (F59_E k) Try.f59 [1, 1, 1, 0, 1, 0] 0 (kontAt (F59_E k) [1, 1, 1, 0, 1, 0] (bodyOf Try.f59) 0 (endC (F59_E k) Try.f59 [.one (.l (.s .ro pace a0)), .one (.l (.v (.int .i64 a1)))] K)) n)) k (F59_s2 a0 a1 x6_0 x18_0 x17_0 x18_0 ((atI m15000_0 x18_0).1) 0 m15000_0)))
          (none))
        (none))
      (K (.tup [(false, [.s .own pace m15000_0]), (false, [.v (.bool x6_0)])], [])) := by kernel_rfl
theorem F59_l0_k0_0 {β : Type} (k n : Nat) (a0 : List (den pace)) (a1 : Int) (y2 : Bool × Int × Int × Int × Int × Int × List (den pace)) (K : A × List (List Leaf) → Option β) :
    (kontAt (F59_E k) [1, 1, 0, 0, 1, 1, 1, 0] (codeAt [1, 1, 1, 0, 1, 0, 0] (bodyOf Try.f59)) 0 (roundG (F59_E k) Try.f59 [1, 1, 1, 0, 1, 0] 0 (kontAt (F59_E k) [1, 1, 1, 0, 1, 0] (bodyOf Try.f59) 0 (endC (F59_E k) Try.f59 [.one (.l (.s .ro pace a0)), .one (.l (.v (.int .i64 a1)))] K)) n)) (.exit 2) ⟨[.one .d, .one .d, .one .d, .one .d, .one .d, .one .d, .one (.v (.bool y2.1)), .one (.a (.cell 15000) 0 0 none), .one (.v (.int .i64 y2.2.1)), .one .d, .one .d, .one .d, .one .d, .one .d, .one .d, .one .d, .one (.a (.cell 15000) 0 0 none), .one (.v (.int .i64 y2.2.2.1)), .one (.v (.int .i64 y2.2.2.2.1)), .one .d, .one .d, .one .d, .one .d, .one .d, .one .d, .one .d, .one .d, .one .d, .one .d, .one .d, .one .d, .one (.v (.int .i64 y2.2.2.2.2.1)), .one (.v (.int .i64 y2.2.2.2.2.2.1)), .one (.v (.bool false)), .one .d, .one .d, .one .d, .one .d, .one .d, .one .d, .one .d, .one .d, .one .d, .one .d, .one .d, .one .d], [(15000, ⟨.s .own pace y2.2.2.2.2.2.2, 0, 0⟩)]⟩ =
    loopG (F59_E k) Try.f59 [1, 1, 1, 0, 1, 0] 0 (kontAt (F59_E k) [1, 1, 1, 0, 1, 0] (bodyOf Try.f59) 0 (endC (F59_E k) Try.f59 [.one (.l (.s .ro pace a0)), .one (.l (.v (.int .i64 a1)))] K)) n (F59_s0 a0 a1 y2.1 y2.2.2.1 (IntKind.i64.wrap (y2.2.2.2.1 + 1)) y2.2.2.2.2.2.2) := by kernel_rfl
theorem F59_l0_lp {β : Type} (k : Nat) (a0 : List (den pace)) (a1 : Int) (K : A × List (List Leaf) → Option β) (n : Nat) : ∀ (x6_0 : Bool) (x17_0 : Int) (x18_0 : Int) (m15000_0 : List (den pace)), loopG (F59_E k) Try.f59 [1, 1, 1, 0, 1, 0] 0 (kontAt (F59_E k) [1, 1, 1, 0, 1, 0] (bodyOf Try.f59) 0 (endC (F59_E k) Try.f59 [.one (.l (.s .ro pace a0)), .one (.l (.v (.int .i64 a1)))] K)) n (F59_s0 a0 a1 x6_0 x17_0 x18_0 m15000_0) =
    (F59_l0 k a0 a1 n x6_0 x17_0 x18_0 m15000_0).bind fun r => K (.tup [(false, [.s .own pace r.1]), (false, [.v (.bool r.2)])], []) := by
  induction n with
  | zero => intros; rfl
  | succ n ih =>
    intros
    rw [F59_l0_rd, F59_l0]
    simp only [bind_cond, Option.bind_assoc, Option.bind_some, Option.bind_none, Option.bind_fun_some, F59_l2_lp, F59_l0_k0_0, ih]
def F59 (k : Nat) (a0 : List (den pace)) (a1 : Int) : Option (List (den pace) × Bool) :=
  (F54 k a0).bind fun b1 =>
    (F62 k a0).bind fun b2 =>
      F59_l0 k a0 a1 k (decide (b1 ≤ a1)) ((b2.length : Nat) : Int) 0 b2
theorem F59_st {β : Type} (k : Nat) (a0 : List (den pace)) (a1 : Int) (K : A × List (List Leaf) → Option β) : evalF (F59_E k) Try.f59 [.one (.l (.s .ro pace a0)), .one (.l (.v (.int .i64 a1)))] K =
    (F54 k a0).bind fun b1 =>
      (F62 k a0).bind fun b2 =>
        loopG (F59_E k) Try.f59 [1, 1, 1, 0, 1, 0] 0 (kontAt (F59_E k) [1, 1, 1, 0, 1, 0] (bodyOf Try.f59) 0 (endC (F59_E k) Try.f59 [.one (.l (.s .ro pace a0)), .one (.l (.v (.int .i64 a1)))] K)) k (F59_s0 a0 a1 (decide (b1 ≤ a1)) ((b2.length : Nat) : Int) 0 b2) := by kernel_rfl
theorem F59_ev {β : Type} (k : Nat) (a0 : List (den pace)) (a1 : Int) (K : A × List (List Leaf) → Option β) : evalF (F59_E k) Try.f59 [.one (.l (.s .ro pace a0)), .one (.l (.v (.int .i64 a1)))] K = (F59 k a0 a1).bind fun r => K (.tup [(false, [.s .own pace r.1]), (false, [.v (.bool r.2)])], []) := by
  rw [F59_st, F59]
  simp only [bind_cond, Option.bind_assoc, Option.bind_some, Option.bind_none, Option.bind_fun_some, F59_l0_lp]
theorem F59_tOk (k : Nat) : TabFn Try.prog (F59_t k) := by
  constructor <;> intro f xs cr h <;> unfold F59_t at h <;> split at h <;> first | (simp only [Option.some.injEq] at h; subst h) | (simp at h; done)
  · exact F54_con _ _
  · exact F62_con _ _
  · exact F84_con _ _ _ _
  · exact F85_con _ _ _ _
  · exact .of (by kernel_rfl)
  · exact .of (by kernel_rfl)
  · exact .of (by kernel_rfl)
  · exact .of (by kernel_rfl)
theorem F59_con (k : Nat) (a0 : List (den pace)) (a1 : Int) : Contract Try.prog 59 [.one (.l (.s .ro pace a0)), .one (.l (.v (.int .i64 a1)))] ⟨F59 k a0 a1, fun r => (.tup [(false, [.s .own pace r.1]), (false, [.v (.bool r.2)])], [])⟩ :=
  con_of (envOk (F59_tOk k) _ _ _ _) mixed Try.func59 rfl rfl (F59_ev k a0 a1 some)
/-! 29: loop.example/netstack/impl.SharedStep -/
def F29_t (k : Nat) : Tab
  | 18, [.one (.l (.s .ro (.pair (.int .i64) (.pair (.int .i64) (.int .i64))) a0))] => some ⟨F18 k a0, fun r => (.one (.v (.bool r)), [])⟩
  | 49, [.one (.l (.v (.int .i64 a0))), .one (.l (.v (.int .i64 a1))), .one (.l (.v (.int .i64 a2)))] => some ⟨F49 k a0 a1 a2, fun r => (.one (.v (.bool r)), [])⟩
  | 59, [.one (.l (.s .ro (.pair (.int .i64) (.pair (.int .i64) (.int .i64))) a0)), .one (.l (.v (.int .i64 a1)))] => some ⟨F59 k a0 a1, fun r => (.tup [(false, [.s .own pace r.1]), (false, [.v (.bool r.2)])], [])⟩
  | _, _ => none
abbrev F29_E (k : Nat) : Env := env (F29_t k) noHint .own [] k
def F29 (k : Nat) (a0 : List (den pace)) (a1 : Int) : Option (List (den pace) × Bool) :=
  (F18 k a0).bind fun b1 =>
    cond ((!b1))
      (some ([], false))
      ((F49 k a1 1 1000).bind fun b2 =>
        cond ((!b2))
          (some ([], false))
          ((F59 k a0 a1).bind fun b3 =>
            some (b3.1, b3.2)))
theorem F29_st {β : Type} (k : Nat) (a0 : List (den pace)) (a1 : Int) (K : A × List (List Leaf) → Option β) : evalF (F29_E k) Try.f29 [.one (.l (.s .ro pace a0)), .one (.l (.v (.int .i64 a1)))] K =
    (F18 k a0).bind fun b1 =>
      cond ((!b1))
        (K (.tup [(false, [.s .own pace []]), (false, [.v (.bool false)])], []))
        ((F49 k a1 1 1000).bind fun b2 =>
          cond ((!b2))
            (K (.tup [(false, [.s .own pace []]), (false, [.v (.bool false)])], []))
            ((F59 k a0 a1).bind fun b3 =>
              K (.tup [(false, [.s .own pace b3.1]), (false, [.v (.bool b3.2)])], []))) := by kernel_rfl
theorem F29_ev {β : Type} (k : Nat) (a0 : List (den pace)) (a1 : Int) (K : A × List (List Leaf) → Option β) : evalF (F29_E k) Try.f29 [.one (.l (.s .ro pace a0)), .one (.l (.v (.int .i64 a1)))] K = (F29 k a0 a1).bind fun r => K (.tup [(false, [.s .own pace r.1]), (false, [.v (.bool r.2)])], []) := by
  rw [F29_st, F29]
  simp only [bind_cond, Option.bind_assoc, Option.bind_some, Option.bind_none, Option.bind_fun_some]
theorem F29_tOk (k : Nat) : TabFn Try.prog (F29_t k) := by
  constructor <;> intro f xs cr h <;> unfold F29_t at h <;> split at h <;> first | (simp only [Option.some.injEq] at h; subst h) | (simp at h; done)
  · exact F18_con _ _
  · exact F49_con _ _ _ _
  · exact F59_con _ _ _
  · exact .of (by kernel_rfl)
  · exact .of (by kernel_rfl)
  · exact .of (by kernel_rfl)
theorem F29_con (k : Nat) (a0 : List (den pace)) (a1 : Int) : Contract Try.prog 29 [.one (.l (.s .ro pace a0)), .one (.l (.v (.int .i64 a1)))] ⟨F29 k a0 a1, fun r => (.tup [(false, [.s .own pace r.1]), (false, [.v (.bool r.2)])], [])⟩ :=
  con_of (envOk (F29_tOk k) _ _ _ _) mixed Try.func29 rfl rfl (F29_ev k a0 a1 some)
/-! 31: loop.example/netstack/laws.markPaceS -/
def F31_h : Nat → Hint
  | 0 => ⟨[(0, .plain), (1, .plain), (5, .plain)], [(0, .plain)]⟩
  | _ => ⟨[], []⟩
abbrev F31_E (k : Nat) : Env := env noTab F31_h .own [(true, 0)] k
def F31_s0 (a0 : List (den pace)) (a1 : Int) (x1_0 : Int) (x5_0 : Int) (m0_0 : List (den pace)) : St := ⟨[.one (.a (.cell 0) 0 0 none), .one (.v (.int .i64 x1_0)), .one .d, .one .d, .one .d, .one (.v (.int .i64 x5_0)), .one .d, .one .d, .one .d, .one .d, .one .d, .one .d, .one .d, .one .d, .one .d, .one .d, .one .d, .one .d, .one .d, .one .d, .one .d, .one .d, .one .d, .one .d, .one .d, .one .d, .one .d, .one .d, .one .d, .one .d, .one .d, .one .d, .one .d, .one .d], [(0, ⟨.s .own pace m0_0, 0, 0⟩)]⟩
def F31_l0 (k : Nat) (a0 : List (den pace)) (a1 : Int) : Nat → Int → Int → List (den pace) → Option (Int × List (den pace))
  | 0, _, _, _ => none
  | n + 1, x1_0, x5_0, m0_0 =>
    cond (decide (x5_0 < ((m0_0.length : Nat) : Int)))
      (cond (decide (0 ≤ x5_0))
        (cond (decide (x5_0 < ((m0_0.length : Nat) : Int)))
          (cond (decide (0 ≤ x5_0))
            (cond (decide (x5_0 < (((m0_0.set x5_0.toNat (x1_0, ((atI m0_0 x5_0).2))).length : Nat) : Int)))
              (cond (decide (0 ≤ x5_0))
                (cond (decide (x5_0 < ((((m0_0.set x5_0.toNat (x1_0, ((atI m0_0 x5_0).2))).set x5_0.toNat ((atI (m0_0.set x5_0.toNat (x1_0, ((atI m0_0 x5_0).2))) x5_0).1, IntKind.i64.wrap (x1_0 + 1), ((atI (m0_0.set x5_0.toNat (x1_0, ((atI m0_0 x5_0).2))) x5_0).2).2)).length : Nat) : Int)))
                  (F31_l0 k a0 a1 n (IntKind.i64.wrap ((IntKind.i64.wrap ((IntKind.i64.wrap (x1_0 + 1)) + 1)) + 1)) (IntKind.i64.wrap (x5_0 + 1)) (((m0_0.set x5_0.toNat (x1_0, ((atI m0_0 x5_0).2))).set x5_0.toNat ((atI (m0_0.set x5_0.toNat (x1_0, ((atI m0_0 x5_0).2))) x5_0).1, IntKind.i64.wrap (x1_0 + 1), ((atI (m0_0.set x5_0.toNat (x1_0, ((atI m0_0 x5_0).2))) x5_0).2).2)).set x5_0.toNat ((atI ((m0_0.set x5_0.toNat (x1_0, ((atI m0_0 x5_0).2))).set x5_0.toNat ((atI (m0_0.set x5_0.toNat (x1_0, ((atI m0_0 x5_0).2))) x5_0).1, IntKind.i64.wrap (x1_0 + 1), ((atI (m0_0.set x5_0.toNat (x1_0, ((atI m0_0 x5_0).2))) x5_0).2).2)) x5_0).1, ((atI ((m0_0.set x5_0.toNat (x1_0, ((atI m0_0 x5_0).2))).set x5_0.toNat ((atI (m0_0.set x5_0.toNat (x1_0, ((atI m0_0 x5_0).2))) x5_0).1, IntKind.i64.wrap (x1_0 + 1), ((atI (m0_0.set x5_0.toNat (x1_0, ((atI m0_0 x5_0).2))) x5_0).2).2)) x5_0).2).1, IntKind.i64.wrap ((IntKind.i64.wrap (x1_0 + 1)) + 1))))
                  (none))
                (none))
              (none))
            (none))
          (none))
        (none))
      (some (x1_0, m0_0))
theorem F31_l0_rd {β : Type} (k n : Nat) (a0 : List (den pace)) (a1 : Int) (x1_0 : Int) (x5_0 : Int) (m0_0 : List (den pace)) (K : A × List (List Leaf) → Option β) :
    loopG (F31_E k) Try.f31 [1, 0, 1, 0] 0 (kontAt (F31_E k) [1, 0, 1, 0] (bodyOf Try.f31) 0 (endC (F31_E k) Try.f31 [.one (.b (.s .own pace a0)), .one (.l (.v (.int .i64 a1)))] K)) (n + 1) (F31_s0 a0 a1 x1_0 x5_0 m0_0) =
    cond (decide (x5_0 < ((m0_0.length : Nat) : Int)))
      (cond (decide (0 ≤ x5_0))
        (cond (decide (x5_0 < ((m0_0.length : Nat) : Int)))
          (cond (decide (0 ≤ x5_0))
            (cond (decide (x5_0 < (((m0_0.set x5_0.toNat (x1_0, ((atI m0_0 x5_0).2))).length : Nat) : Int)))
              (cond (decide (0 ≤ x5_0))
                (cond (decide (x5_0 < ((((m0_0.set x5_0.toNat (x1_0, ((atI m0_0 x5_0).2))).set x5_0.toNat ((atI (m0_0.set x5_0.toNat (x1_0, ((atI m0_0 x5_0).2))) x5_0).1, IntKind.i64.wrap (x1_0 + 1), ((atI (m0_0.set x5_0.toNat (x1_0, ((atI m0_0 x5_0).2))) x5_0).2).2)).length : Nat) : Int)))
                  (loopG (F31_E k) Try.f31 [1, 0, 1, 0] 0 (kontAt (F31_E k) [1, 0, 1, 0] (bodyOf Try.f31) 0 (endC (F31_E k) Try.f31 [.one (.b (.s .own pace a0)), .one (.l (.v (.int .i64 a1)))] K)) n (F31_s0 a0 a1 (IntKind.i64.wrap ((IntKind.i64.wrap ((IntKind.i64.wrap (x1_0 + 1)) + 1)) + 1)) (IntKind.i64.wrap (x5_0 + 1)) (((m0_0.set x5_0.toNat (x1_0, ((atI m0_0 x5_0).2))).set x5_0.toNat ((atI (m0_0.set x5_0.toNat (x1_0, ((atI m0_0 x5_0).2))) x5_0).1, IntKind.i64.wrap (x1_0 + 1), ((atI (m0_0.set x5_0.toNat (x1_0, ((atI m0_0 x5_0).2))) x5_0).2).2)).set x5_0.toNat ((atI ((m0_0.set x5_0.toNat (x1_0, ((atI m0_0 x5_0).2))).set x5_0.toNat ((atI (m0_0.set x5_0.toNat (x1_0, ((atI m0_0 x5_0).2))) x5_0).1, IntKind.i64.wrap (x1_0 + 1), ((atI (m0_0.set x5_0.toNat (x1_0, ((atI m0_0 x5_0).2))) x5_0).2).2)) x5_0).1, ((atI ((m0_0.set x5_0.toNat (x1_0, ((atI m0_0 x5_0).2))).set x5_0.toNat ((atI (m0_0.set x5_0.toNat (x1_0, ((atI m0_0 x5_0).2))) x5_0).1, IntKind.i64.wrap (x1_0 + 1), ((atI (m0_0.set x5_0.toNat (x1_0, ((atI m0_0 x5_0).2))) x5_0).2).2)) x5_0).2).1, IntKind.i64.wrap ((IntKind.i64.wrap (x1_0 + 1)) + 1)))))
                  (none))
                (none))
              (none))
            (none))
          (none))
        (none))
      (K (.one (.v (.int .i64 x1_0)), [[.s .own pace m0_0]])) := by kernel_rfl
theorem F31_l0_lp {β : Type} (k : Nat) (a0 : List (den pace)) (a1 : Int) (K : A × List (List Leaf) → Option β) (n : Nat) : ∀ (x1_0 : Int) (x5_0 : Int) (m0_0 : List (den pace)), loopG (F31_E k) Try.f31 [1, 0, 1, 0] 0 (kontAt (F31_E k) [1, 0, 1, 0] (bodyOf Try.f31) 0 (endC (F31_E k) Try.f31 [.one (.b (.s .own pace a0)), .one (.l (.v (.int .i64 a1)))] K)) n (F31_s0 a0 a1 x1_0 x5_0 m0_0) =
    (F31_l0 k a0 a1 n x1_0 x5_0 m0_0).bind fun r => K (.one (.v (.int .i64 r.1)), [[.s .own pace r.2]]) := by
  induction n with
  | zero => intros; rfl
  | succ n ih =>
    intros
    rw [F31_l0_rd, F31_l0]
    simp only [bind_cond, Option.bind_assoc, Option.bind_some, Option.bind_none, Option.bind_fun_some, ih]
def F31 (k : Nat) (a0 : List (den pace)) (a1 : Int) : Option (Int × List (den pace)) :=
  F31_l0 k a0 a1 k a1 0 a0
theorem F31_st {β : Type} (k : Nat) (a0 : List (den pace)) (a1 : Int) (K : A × List (List Leaf) → Option β) : evalF (F31_E k) Try.f31 [.one (.b (.s .own pace a0)), .one (.l (.v (.int .i64 a1)))] K =
    loopG (F31_E k) Try.f31 [1, 0, 1, 0] 0 (kontAt (F31_E k) [1, 0, 1, 0] (bodyOf Try.f31) 0 (endC (F31_E k) Try.f31 [.one (.b (.s .own pace a0)), .one (.l (.v (.int .i64 a1)))] K)) k (F31_s0 a0 a1 a1 0 a0) := by kernel_rfl
theorem F31_ev {β : Type} (k : Nat) (a0 : List (den pace)) (a1 : Int) (K : A × List (List Leaf) → Option β) : evalF (F31_E k) Try.f31 [.one (.b (.s .own pace a0)), .one (.l (.v (.int .i64 a1)))] K = (F31 k a0 a1).bind fun r => K (.one (.v (.int .i64 r.1)), [[.s .own pace r.2]]) := by
  rw [F31_st, F31]
  simp only [bind_cond, Option.bind_assoc, Option.bind_some, Option.bind_none, Option.bind_fun_some, F31_l0_lp]
theorem F31_con (k : Nat) (a0 : List (den pace)) (a1 : Int) : Contract Try.prog 31 [.one (.b (.s .own pace a0)), .one (.l (.v (.int .i64 a1)))] ⟨F31 k a0 a1, fun r => (.one (.v (.int .i64 r.1)), [[.s .own pace r.2]])⟩ :=
  con_of (envOk .none _ _ _ _) mixed Try.func31 rfl rfl (F31_ev k a0 a1 some)
/-! 32: loop.example/netstack/laws.heldPaceS -/
def F32_h : Nat → Hint
  | 0 => ⟨[(0, .plain), (1, .plain), (5, .plain)], []⟩
  | _ => ⟨[], []⟩
abbrev F32_E (k : Nat) : Env := env noTab F32_h .own [] k
def F32_s0 (a0 : List (den pace)) (a1 : Int) (x1_0 : Int) (x5_0 : Int) : St := ⟨[.one (.s .ro pace a0), .one (.v (.int .i64 x1_0)), .one .d, .one .d, .one .d, .one (.v (.int .i64 x5_0)), .one .d, .one .d, .one .d, .one .d, .one .d, .one .d, .one .d, .one .d, .one .d, .one .d, .one .d, .one .d, .one .d, .one .d, .one .d, .one .d, .one .d, .one .d, .one .d, .one .d, .one .d, .one .d, .one .d, .one .d, .one .d, .one .d, .one .d, .one .d, .one .d, .one .d, .one .d, .one .d, .one .d, .one .d], []⟩
def F32_l0 (k : Nat) (a0 : List (den pace)) (a1 : Int) : Nat → Int → Int → Option (Int)
  | 0, _, _ => none
  | n + 1, x1_0, x5_0 =>
    cond (decide (x5_0 < ((a0.length : Nat) : Int)))
      (cond (decide (0 ≤ x5_0))
        (cond (decide (x5_0 < ((a0.length : Nat) : Int)))
          (cond ((((atI a0 x5_0).1) != x1_0))
            (some (-1))
            (cond (decide (0 ≤ x5_0))
              (cond (decide (x5_0 < ((a0.length : Nat) : Int)))
                (cond (((((atI a0 x5_0).2).1) != (IntKind.i64.wrap (x1_0 + 1))))
                  (some (-1))
                  (cond (decide (0 ≤ x5_0))
                    (cond (decide (x5_0 < ((a0.length : Nat) : Int)))
                      (cond (((((atI a0 x5_0).2).2) != (IntKind.i64.wrap ((IntKind.i64.wrap (x1_0 + 1)) + 1))))
                        (some (-1))
                        (F32_l0 k a0 a1 n (IntKind.i64.wrap ((IntKind.i64.wrap ((IntKind.i64.wrap (x1_0 + 1)) + 1)) + 1)) (IntKind.i64.wrap (x5_0 + 1))))
                      (none))
                    (none)))
                (none))
              (none)))
          (none))
        (none))
      (some x1_0)
theorem F32_l0_rd {β : Type} (k n : Nat) (a0 : List (den pace)) (a1 : Int) (x1_0 : Int) (x5_0 : Int) (K : A × List (List Leaf) → Option β) :
    loopG (F32_E k) Try.f32 [1, 0, 1, 0] 0 (kontAt (F32_E k) [1, 0, 1, 0] (bodyOf Try.f32) 0 (endC (F32_E k) Try.f32 [.one (.l (.s .ro pace a0)), .one (.l (.v (.int .i64 a1)))] K)) (n + 1) (F32_s0 a0 a1 x1_0 x5_0) =
    cond (decide (x5_0 < ((a0.length : Nat) : Int)))
      (cond (decide (0 ≤ x5_0))
        (cond (decide (x5_0 < ((a0.length : Nat) : Int)))
          (cond ((((atI a0 x5_0).1) != x1_0))
            (K (.one (.v (.int .i64 (-1))), []))
            (cond (decide (0 ≤ x5_0))
              (cond (decide (x5_0 < ((a0.length : Nat) : Int)))
                (cond (((((atI a0 x5_0).2).1) != (IntKind.i64.wrap (x1_0 + 1))))
                  (K (.one (.v (.int .i64 (-1))), []))
                  (cond (decide (0 ≤ x5_0))
                    (cond (decide (x5_0 < ((a0.length : Nat) : Int)))
                      (cond (((((atI a0 x5_0).2).2) != (IntKind.i64.wrap ((IntKind.i64.wrap (x1_0 + 1)) + 1))))
                        (K (.one (.v (.int .i64 (-1))), []))
                        (loopG (F32_E k) Try.f32 [1, 0, 1, 0] 0 (kontAt (F32_E k) [1, 0, 1, 0] (bodyOf Try.f32) 0 (endC (F32_E k) Try.f32 [.one (.l (.s .ro pace a0)), .one (.l (.v (.int .i64 a1)))] K)) n (F32_s0 a0 a1 (IntKind.i64.wrap ((IntKind.i64.wrap ((IntKind.i64.wrap (x1_0 + 1)) + 1)) + 1)) (IntKind.i64.wrap (x5_0 + 1)))))
                      (none))
                    (none)))
                (none))
              (none)))
          (none))
        (none))
      (K (.one (.v (.int .i64 x1_0)), [])) := by kernel_rfl
theorem F32_l0_lp {β : Type} (k : Nat) (a0 : List (den pace)) (a1 : Int) (K : A × List (List Leaf) → Option β) (n : Nat) : ∀ (x1_0 : Int) (x5_0 : Int), loopG (F32_E k) Try.f32 [1, 0, 1, 0] 0 (kontAt (F32_E k) [1, 0, 1, 0] (bodyOf Try.f32) 0 (endC (F32_E k) Try.f32 [.one (.l (.s .ro pace a0)), .one (.l (.v (.int .i64 a1)))] K)) n (F32_s0 a0 a1 x1_0 x5_0) =
    (F32_l0 k a0 a1 n x1_0 x5_0).bind fun r => K (.one (.v (.int .i64 r)), []) := by
  induction n with
  | zero => intros; rfl
  | succ n ih =>
    intros
    rw [F32_l0_rd, F32_l0]
    simp only [bind_cond, Option.bind_assoc, Option.bind_some, Option.bind_none, Option.bind_fun_some, ih]
def F32 (k : Nat) (a0 : List (den pace)) (a1 : Int) : Option (Int) :=
  F32_l0 k a0 a1 k a1 0
theorem F32_st {β : Type} (k : Nat) (a0 : List (den pace)) (a1 : Int) (K : A × List (List Leaf) → Option β) : evalF (F32_E k) Try.f32 [.one (.l (.s .ro pace a0)), .one (.l (.v (.int .i64 a1)))] K =
    loopG (F32_E k) Try.f32 [1, 0, 1, 0] 0 (kontAt (F32_E k) [1, 0, 1, 0] (bodyOf Try.f32) 0 (endC (F32_E k) Try.f32 [.one (.l (.s .ro pace a0)), .one (.l (.v (.int .i64 a1)))] K)) k (F32_s0 a0 a1 a1 0) := by kernel_rfl
theorem F32_ev {β : Type} (k : Nat) (a0 : List (den pace)) (a1 : Int) (K : A × List (List Leaf) → Option β) : evalF (F32_E k) Try.f32 [.one (.l (.s .ro pace a0)), .one (.l (.v (.int .i64 a1)))] K = (F32 k a0 a1).bind fun r => K (.one (.v (.int .i64 r)), []) := by
  rw [F32_st, F32]
  simp only [bind_cond, Option.bind_assoc, Option.bind_some, Option.bind_none, Option.bind_fun_some, F32_l0_lp]
theorem F32_con (k : Nat) (a0 : List (den pace)) (a1 : Int) : Contract Try.prog 32 [.one (.l (.s .ro pace a0)), .one (.l (.v (.int .i64 a1)))] ⟨F32 k a0 a1, fun r => (.one (.v (.int .i64 r)), [])⟩ :=
  con_of (envOk .none _ _ _ _) mixed Try.func32 rfl rfl (F32_ev k a0 a1 some)
/-! 10: loop.example/netstack/laws.FnExactSharedStep -/
def F10_t (k : Nat) : Tab
  | 15, [.one (.l (.s .ro (.pair (.int .i64) (.pair (.int .i64) (.int .i64))) a0)), .one (.l (.v (.int .i64 a1)))] => some ⟨F15 k a0 a1, fun r => (.one (.v (.int .i64 r)), [])⟩
  | 17, [.one (.l (.s .ro (.pair (.int .i64) (.pair (.int .i64) (.int .i64))) a0))] => some ⟨F17 k a0, fun r => (.one (.s .own pace r), [])⟩
  | 30, [.one (.l (.s .ro (.pair (.int .i64) (.pair (.int .i64) (.int .i64))) a0)), .one (.l (.v (.int .i64 a1)))] => some ⟨F30 k a0 a1, fun r => (.tup [(false, [.s .own pace r.1]), (false, [.v (.bool r.2)])], [])⟩
  | 29, [.one (.l (.s .ro (.pair (.int .i64) (.pair (.int .i64) (.int .i64))) a0)), .one (.l (.v (.int .i64 a1)))] => some ⟨F29 k a0 a1, fun r => (.tup [(false, [.s .own pace r.1]), (false, [.v (.bool r.2)])], [])⟩
  | 19, [.one (.l (.s .ro (.pair (.int .i64) (.pair (.int .i64) (.int .i64))) a0)), .one (.l (.s .ro (.pair (.int .i64) (.pair (.int .i64) (.int .i64))) a1))] => some ⟨F19 k a0 a1, fun r => (.one (.v (.bool r)), [])⟩
  | 31, [.one (.b (.s .own (.pair (.int .i64) (.pair (.int .i64) (.int .i64))) a0)), .one (.l (.v (.int .i64 a1)))] => some ⟨F31 k a0 a1, fun r => (.one (.v (.int .i64 r.1)), [[.s .own pace r.2]])⟩
  | 32, [.one (.l (.s .ro (.pair (.int .i64) (.pair (.int .i64) (.int .i64))) a0)), .one (.l (.v (.int .i64 a1)))] => some ⟨F32 k a0 a1, fun r => (.one (.v (.int .i64 r)), [])⟩
  | _, _ => none
abbrev F10_E (k : Nat) : Env := env (F10_t k) noHint .own [] k
def F10 (k : Nat) (a0 : List (den pace)) (a1 : Int) : Option (Bool) :=
  (F15 k a0 1048576).bind fun b1 =>
    cond (decide (b1 < 0))
      (some true)
      ((F17 k a0).bind fun b2 =>
        (F30 k b2 a1).bind fun b3 =>
          (F17 k a0).bind fun b4 =>
            (F29 k b4 a1).bind fun b5 =>
              (F19 k b5.1 b3.1).bind fun b6 =>
                cond ((!b6))
                  (some false)
                  (cond ((!(b5.2 == b3.2)))
                    (some false)
                    ((F17 k a0).bind fun b7 =>
                      (F19 k b4 b7).bind fun b8 =>
                        cond ((!b8))
                          (some false)
                          ((F31 k b4 1).bind fun b9 =>
                            cond (decide (b9.1 < 0))
                              (some false)
                              ((F19 k b5.1 b3.1).bind fun b10 =>
                                cond ((!b10))
                                  (some false)
                                  (cond ((!(b5.2 == b3.2)))
                                    (some false)
                                    ((F31 k b5.1 1).bind fun b11 =>
                                      (F32 k b11.2 1).bind fun b12 =>
                                        cond (decide (b12 < 0))
                                          (some false)
                                          (cond ((b12 != b11.1))
                                            (some false)
                                            ((F17 k a0).bind fun b13 =>
                                              (F29 k b13 a1).bind fun b14 =>
                                                (F19 k b14.1 b3.1).bind fun b15 =>
                                                  cond ((!b15))
                                                    (some false)
                                                    (cond ((!(b14.2 == b3.2)))
                                                      (some false)
                                                      ((F32 k b11.2 1).bind fun b16 =>
                                                        cond (decide (b16 < 0))
                                                          (some false)
                                                          (cond ((b16 != b11.1))
                                                            (some false)
                                                            (some true)))))))))))))
theorem F10_st {β : Type} (k : Nat) (a0 : List (den pace)) (a1 : Int) (K : A × List (List Leaf) → Option β) : evalF (F10_E k) Try.f10 [.one (.l (.s .ro pace a0)), .one (.l (.v (.int .i64 a1)))] K =
    (F15 k a0 1048576).bind fun b1 =>
      cond (decide (b1 < 0))
        (K (.one (.v (.bool true)), []))
        ((F17 k a0).bind fun b2 =>
          (F30 k b2 a1).bind fun b3 =>
            (F17 k a0).bind fun b4 =>
              (F29 k b4 a1).bind fun b5 =>
                (F19 k b5.1 b3.1).bind fun b6 =>
                  cond ((!b6))
                    (K (.one (.v (.bool false)), []))
                    (cond ((!(b5.2 == b3.2)))
                      (K (.one (.v (.bool false)), []))
                      ((F17 k a0).bind fun b7 =>
                        (F19 k b4 b7).bind fun b8 =>
                          cond ((!b8))
                            (K (.one (.v (.bool false)), []))
                            ((F31 k b4 1).bind fun b9 =>
                              cond (decide (b9.1 < 0))
                                (K (.one (.v (.bool false)), []))
                                ((F19 k b5.1 b3.1).bind fun b10 =>
                                  cond ((!b10))
                                    (K (.one (.v (.bool false)), []))
                                    (cond ((!(b5.2 == b3.2)))
                                      (K (.one (.v (.bool false)), []))
                                      ((F31 k b5.1 1).bind fun b11 =>
                                        (F32 k b11.2 1).bind fun b12 =>
                                          cond (decide (b12 < 0))
                                            (K (.one (.v (.bool false)), []))
                                            (cond ((b12 != b11.1))
                                              (K (.one (.v (.bool false)), []))
                                              ((F17 k a0).bind fun b13 =>
                                                (F29 k b13 a1).bind fun b14 =>
                                                  (F19 k b14.1 b3.1).bind fun b15 =>
                                                    cond ((!b15))
                                                      (K (.one (.v (.bool false)), []))
                                                      (cond ((!(b14.2 == b3.2)))
                                                        (K (.one (.v (.bool false)), []))
                                                        ((F32 k b11.2 1).bind fun b16 =>
                                                          cond (decide (b16 < 0))
                                                            (K (.one (.v (.bool false)), []))
                                                            (cond ((b16 != b11.1))
                                                              (K (.one (.v (.bool false)), []))
                                                              (K (.one (.v (.bool true)), [])))))))))))))) := by kernel_rfl
theorem F10_ev {β : Type} (k : Nat) (a0 : List (den pace)) (a1 : Int) (K : A × List (List Leaf) → Option β) : evalF (F10_E k) Try.f10 [.one (.l (.s .ro pace a0)), .one (.l (.v (.int .i64 a1)))] K = (F10 k a0 a1).bind fun r => K (.one (.v (.bool r)), []) := by
  rw [F10_st, F10]
  simp only [bind_cond, Option.bind_assoc, Option.bind_some, Option.bind_none, Option.bind_fun_some]
theorem F10_tOk (k : Nat) : TabFn Try.prog (F10_t k) := by
  constructor <;> intro f xs cr h <;> unfold F10_t at h <;> split at h <;> first | (simp only [Option.some.injEq] at h; subst h) | (simp at h; done)
  · exact F15_con _ _ _
  · exact F17_con _ _
  · exact F30_con _ _ _
  · exact F29_con _ _ _
  · exact F19_con _ _ _
  · exact F31_con _ _ _
  · exact F32_con _ _ _
  · exact .of (by kernel_rfl)
  · exact .of (by kernel_rfl)
  · exact .of (by kernel_rfl)
  · exact .of (by kernel_rfl)
  · exact .of (by kernel_rfl)
  · exact .of (by kernel_rfl)
  · exact .of (by kernel_rfl)
theorem F10_con (k : Nat) (a0 : List (den pace)) (a1 : Int) : Contract Try.prog 10 [.one (.l (.s .ro pace a0)), .one (.l (.v (.int .i64 a1)))] ⟨F10 k a0 a1, fun r => (.one (.v (.bool r)), [])⟩ :=
  con_of (envOk (F10_tOk k) _ _ _ _) mixed Try.func10 rfl rfl (F10_ev k a0 a1 some)
/-! 35: loop.example/netstack/spec.SharedRun -/
def F35_h : Nat → Hint
  | 0 => ⟨[(1, .plain), (2, .plain), (8, .own .own pace []), (9, .plain), (10, .plain)], []⟩
  | _ => ⟨[], []⟩
def F35_t (k : Nat) : Tab
  | 16, [.one (.l (.s .ro (.pair (.int .i64) (.pair (.int .i64) (.int .i64))) a0))] => some ⟨F16 k a0, fun r => (.one (.v (.bool r)), [])⟩
  | 47, [.one (.l (.v (.int .i64 a0))), .one (.l (.v (.int .i64 a1))), .one (.l (.v (.int .i64 a2)))] => some ⟨F47 k a0 a1 a2, fun r => (.one (.v (.bool r)), [])⟩
  | 30, [.one (.l (.s .ro (.pair (.int .i64) (.pair (.int .i64) (.int .i64))) a0)), .one (.l (.v (.int .i64 a1)))] => some ⟨F30 k a0 a1, fun r => (.tup [(false, [.s .own pace r.1]), (false, [.v (.bool r.2)])], [])⟩
  | 22, [.one (.l (.s .ro (.pair (.int .i64) (.pair (.int .i64) (.int .i64))) a0))] => some ⟨F22 k a0, fun r => (.one (.v (.int .i64 r)), [])⟩
  | _, _ => none
abbrev F35_E (k : Nat) : Env := env (F35_t k) F35_h .own [] k
def F35_s0 (a0 : List (den pace)) (a1 : Int) (a2 : Int) (x9_0 : Int) (x10_0 : Int) (m8900_0 : List (den pace)) : St := ⟨[.one .d, .one (.v (.int .i64 a1)), .one (.v (.int .i64 a2)), .one .d, .one .d, .one .d, .one .d, .one .d, .one (.a (.cell 8900) 0 0 none), .one (.v (.int .i64 x9_0)), .one (.v (.int .i64 x10_0)), .one .d, .one .d, .one .d, .one .d, .one .d, .one .d, .one .d, .one .d, .one .d, .one .d, .one .d, .one .d, .one .d, .one .d, .one .d, .one .d, .one .d, .one .d, .one .d, .one .d, .one .d, .one .d, .one .d, .one .d, .one .d, .one .d, .one .d, .one .d, .one .d, .one .d, .one .d, .one .d, .one .d, .one .d, .one .d, .one .d, .one .d, .one .d], [(8900, ⟨.s .own pace m8900_0, 0, 0⟩)]⟩
def F35_l0 (k : Nat) (a0 : List (den pace)) (a1 : Int) (a2 : Int) : Nat → Int → Int → List (den pace) → Option (List (den pace) × Int)
  | 0, _, _, _ => none
  | n + 1, x9_0, x10_0, m8900_0 =>
    cond (decide (x10_0 < a2))
      ((F30 k m8900_0 a1).bind fun b4 =>
        cond (b4.2)
          ((F22 k m8900_0).bind fun b5 =>
            F35_l0 k a0 a1 a2 n (IntKind.i64.wrap (x9_0 + b5)) (IntKind.i64.wrap (x10_0 + 1)) b4.1)
          (F35_l0 k a0 a1 a2 n x9_0 (IntKind.i64.wrap (x10_0 + 1)) b4.1))
      (some (m8900_0, x9_0))
theorem F35_l0_rd {β : Type} (k n : Nat) (a0 : List (den pace)) (a1 : Int) (a2 : Int) (x9_0 : Int) (x10_0 : Int) (m8900_0 : List (den pace)) (K : A × List (List Leaf) → Option β) :
    loopG (F35_E k) Try.f35 [1, 1, 1, 1, 0, 1, 0] 0 (kontAt (F35_E k) [1, 1, 1, 1, 0, 1, 0] (bodyOf Try.f35) 0 (endC (F35_E k) Try.f35 [.one (.l (.s .ro pace a0)), .one (.l (.v (.int .i64 a1))), .one (.l (.v (.int .i64 a2)))] K)) (n + 1) (F35_s0 a0 a1 a2 x9_0 x10_0 m8900_0) =
    cond (decide (x10_0 < a2))
      ((F30 k m8900_0 a1).bind fun b4 =>
        cond (b4.2)
          ((F22 k m8900_0).bind fun b5 =>
            loopG (F35_E k) Try.f35 [1, 1, 1, 1, 0, 1, 0] 0 (kontAt (F35_E k) [1, 1, 1, 1, 0, 1, 0] (bodyOf Try.f35) 0 (endC (F35_E k) Try.f35 [.one (.l (.s .ro pace a0)), .one (.l (.v (.int .i64 a1))), .one (.l (.v (.int .i64 a2)))] K)) n (F35_s0 a0 a1 a2 (IntKind.i64.wrap (x9_0 + b5)) (IntKind.i64.wrap (x10_0 + 1)) b4.1))
          (loopG (F35_E k) Try.f35 [1, 1, 1, 1, 0, 1, 0] 0 (kontAt (F35_E k) [1, 1, 1, 1, 0, 1, 0] (bodyOf Try.f35) 0 (endC (F35_E k) Try.f35 [.one (.l (.s .ro pace a0)), .one (.l (.v (.int .i64 a1))), .one (.l (.v (.int .i64 a2)))] K)) n (F35_s0 a0 a1 a2 x9_0 (IntKind.i64.wrap (x10_0 + 1)) b4.1)))
      (K (.tup [(false, [.s .own pace m8900_0]), (false, [.v (.int .i64 x9_0)])], [])) := by kernel_rfl
theorem F35_l0_lp {β : Type} (k : Nat) (a0 : List (den pace)) (a1 : Int) (a2 : Int) (K : A × List (List Leaf) → Option β) (n : Nat) : ∀ (x9_0 : Int) (x10_0 : Int) (m8900_0 : List (den pace)), loopG (F35_E k) Try.f35 [1, 1, 1, 1, 0, 1, 0] 0 (kontAt (F35_E k) [1, 1, 1, 1, 0, 1, 0] (bodyOf Try.f35) 0 (endC (F35_E k) Try.f35 [.one (.l (.s .ro pace a0)), .one (.l (.v (.int .i64 a1))), .one (.l (.v (.int .i64 a2)))] K)) n (F35_s0 a0 a1 a2 x9_0 x10_0 m8900_0) =
    (F35_l0 k a0 a1 a2 n x9_0 x10_0 m8900_0).bind fun r => K (.tup [(false, [.s .own pace r.1]), (false, [.v (.int .i64 r.2)])], []) := by
  induction n with
  | zero => intros; rfl
  | succ n ih =>
    intros
    rw [F35_l0_rd, F35_l0]
    simp only [bind_cond, Option.bind_assoc, Option.bind_some, Option.bind_none, Option.bind_fun_some, ih]
def F35 (k : Nat) (a0 : List (den pace)) (a1 : Int) (a2 : Int) : Option (List (den pace) × Int) :=
  (F16 k a0).bind fun b1 =>
    cond ((!b1))
      (some ([], 0))
      ((F47 k a1 1 1000).bind fun b2 =>
        cond ((!b2))
          (some ([], 0))
          ((F47 k a2 0 200).bind fun b3 =>
            cond ((!b3))
              (some ([], 0))
              (cond (decide ((([] : List (den pace)).length + a0.length) * 24 ≤ 140737488355328))
                (F35_l0 k a0 a1 a2 k 0 0 ([] ++ a0))
                (none))))
theorem F35_st {β : Type} (k : Nat) (a0 : List (den pace)) (a1 : Int) (a2 : Int) (K : A × List (List Leaf) → Option β) : evalF (F35_E k) Try.f35 [.one (.l (.s .ro pace a0)), .one (.l (.v (.int .i64 a1))), .one (.l (.v (.int .i64 a2)))] K =
    (F16 k a0).bind fun b1 =>
      cond ((!b1))
        (K (.tup [(false, [.s .own pace []]), (false, [.v (.int .i64 0)])], []))
        ((F47 k a1 1 1000).bind fun b2 =>
          cond ((!b2))
            (K (.tup [(false, [.s .own pace []]), (false, [.v (.int .i64 0)])], []))
            ((F47 k a2 0 200).bind fun b3 =>
              cond ((!b3))
                (K (.tup [(false, [.s .own pace []]), (false, [.v (.int .i64 0)])], []))
                (cond (decide ((([] : List (den pace)).length + a0.length) * 24 ≤ 140737488355328))
                  (loopG (F35_E k) Try.f35 [1, 1, 1, 1, 0, 1, 0] 0 (kontAt (F35_E k) [1, 1, 1, 1, 0, 1, 0] (bodyOf Try.f35) 0 (endC (F35_E k) Try.f35 [.one (.l (.s .ro pace a0)), .one (.l (.v (.int .i64 a1))), .one (.l (.v (.int .i64 a2)))] K)) k (F35_s0 a0 a1 a2 0 0 ([] ++ a0)))
                  (none)))) := by kernel_rfl
theorem F35_ev {β : Type} (k : Nat) (a0 : List (den pace)) (a1 : Int) (a2 : Int) (K : A × List (List Leaf) → Option β) : evalF (F35_E k) Try.f35 [.one (.l (.s .ro pace a0)), .one (.l (.v (.int .i64 a1))), .one (.l (.v (.int .i64 a2)))] K = (F35 k a0 a1 a2).bind fun r => K (.tup [(false, [.s .own pace r.1]), (false, [.v (.int .i64 r.2)])], []) := by
  rw [F35_st, F35]
  simp only [bind_cond, Option.bind_assoc, Option.bind_some, Option.bind_none, Option.bind_fun_some, F35_l0_lp]
theorem F35_tOk (k : Nat) : TabFn Try.prog (F35_t k) := by
  constructor <;> intro f xs cr h <;> unfold F35_t at h <;> split at h <;> first | (simp only [Option.some.injEq] at h; subst h) | (simp at h; done)
  · exact F16_con _ _
  · exact F47_con _ _ _ _
  · exact F30_con _ _ _
  · exact F22_con _ _
  · exact .of (by kernel_rfl)
  · exact .of (by kernel_rfl)
  · exact .of (by kernel_rfl)
  · exact .of (by kernel_rfl)
theorem F35_con (k : Nat) (a0 : List (den pace)) (a1 : Int) (a2 : Int) : Contract Try.prog 35 [.one (.l (.s .ro pace a0)), .one (.l (.v (.int .i64 a1))), .one (.l (.v (.int .i64 a2)))] ⟨F35 k a0 a1 a2, fun r => (.tup [(false, [.s .own pace r.1]), (false, [.v (.int .i64 r.2)])], [])⟩ :=
  con_of (envOk (F35_tOk k) _ _ _ _) mixed Try.func35 rfl rfl (F35_ev k a0 a1 a2 some)
/-! 36: loop.example/netstack/impl.SharedRun -/
def F36_h : Nat → Hint
  | 0 => ⟨[(1, .plain), (8, .own .own pace []), (9, .plain), (28, .plain), (29, .plain)], []⟩
  | _ => ⟨[], []⟩
def F36_t (k : Nat) : Tab
  | 18, [.one (.l (.s .ro (.pair (.int .i64) (.pair (.int .i64) (.int .i64))) a0))] => some ⟨F18 k a0, fun r => (.one (.v (.bool r)), [])⟩
  | 49, [.one (.l (.v (.int .i64 a0))), .one (.l (.v (.int .i64 a1))), .one (.l (.v (.int .i64 a2)))] => some ⟨F49 k a0 a1 a2, fun r => (.one (.v (.bool r)), [])⟩
  | 62, [.one (.l (.s .ro (.pair (.int .i64) (.pair (.int .i64) (.int .i64))) a0))] => some ⟨F62 k a0, fun r => (.one (.s .own pace r), [])⟩
  | 54, [.one (.l (.s .ro (.pair (.int .i64) (.pair (.int .i64) (.int .i64))) a0))] => some ⟨F54 k a0, fun r => (.one (.v (.int .i64 r)), [])⟩
  | 59, [.one (.l (.s .ro (.pair (.int .i64) (.pair (.int .i64) (.int .i64))) a0)), .one (.l (.v (.int .i64 a1)))] => some ⟨F59 k a0 a1, fun r => (.tup [(false, [.s .own pace r.1]), (false, [.v (.bool r.2)])], [])⟩
  | _, _ => none
abbrev F36_E (k : Nat) : Env := env (F36_t k) F36_h .own [] k
def F36_s0 (a0 : List (den pace)) (a1 : Int) (a2 : Int) (x9_0 : Int) (x29_0 : Int) (m8900_0 : List (den pace)) : St := ⟨[.one .d, .one (.v (.int .i64 a1)), .one .d, .one .d, .one .d, .one .d, .one .d, .one .d, .one (.a (.cell 8900) 0 0 none), .one (.v (.int .i64 x9_0)), .one .d, .one .d, .one .d, .one .d, .one .d, .one .d, .one .d, .one .d, .one .d, .one .d, .one .d, .one .d, .one .d, .one .d, .one .d, .one .d, .one .d, .one .d, .one (.v (.int .i64 a2)), .one (.v (.int .i64 x29_0)), .one .d, .one .d, .one .d, .one .d, .one .d, .one .d, .one .d, .one .d, .one .d, .one .d, .one .d, .one .d, .one .d, .one .d, .one .d, .one .d, .one .d], [(8900, ⟨.s .own pace m8900_0, 0, 0⟩)]⟩
def F36_l0 (k : Nat) (a0 : List (den pace)) (a1 : Int) (a2 : Int) : Nat → Int → Int → List (den pace) → Option (List (den pace) × Int)
  | 0, _, _, _ => none
  | n + 1, x9_0, x29_0, m8900_0 =>
    cond (decide (x29_0 < a2))
      ((F54 k m8900_0).bind fun b5 =>
        (F59 k m8900_0 a1).bind fun b6 =>
          cond (b6.2)
            (F36_l0 k a0 a1 a2 n (IntKind.i64.wrap (x9_0 + b5)) (IntKind.i64.wrap (x29_0 + 1)) b6.1)
            (F36_l0 k a0 a1 a2 n x9_0 (IntKind.i64.wrap (x29_0 + 1)) b6.1))
      (some (m8900_0, x9_0))
theorem F36_l0_rd {β : Type} (k n : Nat) (a0 : List (den pace)) (a1 : Int) (a2 : Int) (x9_0 : Int) (x29_0 : Int) (m8900_0 : List (den pace)) (K : A × List (List Leaf) → Option β) :
    loopG (F36_E k) Try.f36 [1, 1, 1, 0, 1, 0] 0 (kontAt (F36_E k) [1, 1, 1, 0, 1, 0] (bodyOf Try.f36) 0 (endC (F36_E k) Try.f36 [.one (.l (.s .ro pace a0)), .one (.l (.v (.int .i64 a1))), .one (.l (.v (.int .i64 a2)))] K)) (n + 1) (F36_s0 a0 a1 a2 x9_0 x29_0 m8900_0) =
    cond (decide (x29_0 < a2))
      ((F54 k m8900_0).bind fun b5 =>
        (F59 k m8900_0 a1).bind fun b6 =>
          cond (b6.2)
            (loopG (F36_E k) Try.f36 [1, 1, 1, 0, 1, 0] 0 (kontAt (F36_E k) [1, 1, 1, 0, 1, 0] (bodyOf Try.f36) 0 (endC (F36_E k) Try.f36 [.one (.l (.s .ro pace a0)), .one (.l (.v (.int .i64 a1))), .one (.l (.v (.int .i64 a2)))] K)) n (F36_s0 a0 a1 a2 (IntKind.i64.wrap (x9_0 + b5)) (IntKind.i64.wrap (x29_0 + 1)) b6.1))
            (loopG (F36_E k) Try.f36 [1, 1, 1, 0, 1, 0] 0 (kontAt (F36_E k) [1, 1, 1, 0, 1, 0] (bodyOf Try.f36) 0 (endC (F36_E k) Try.f36 [.one (.l (.s .ro pace a0)), .one (.l (.v (.int .i64 a1))), .one (.l (.v (.int .i64 a2)))] K)) n (F36_s0 a0 a1 a2 x9_0 (IntKind.i64.wrap (x29_0 + 1)) b6.1)))
      (K (.tup [(false, [.s .own pace m8900_0]), (false, [.v (.int .i64 x9_0)])], [])) := by kernel_rfl
theorem F36_l0_lp {β : Type} (k : Nat) (a0 : List (den pace)) (a1 : Int) (a2 : Int) (K : A × List (List Leaf) → Option β) (n : Nat) : ∀ (x9_0 : Int) (x29_0 : Int) (m8900_0 : List (den pace)), loopG (F36_E k) Try.f36 [1, 1, 1, 0, 1, 0] 0 (kontAt (F36_E k) [1, 1, 1, 0, 1, 0] (bodyOf Try.f36) 0 (endC (F36_E k) Try.f36 [.one (.l (.s .ro pace a0)), .one (.l (.v (.int .i64 a1))), .one (.l (.v (.int .i64 a2)))] K)) n (F36_s0 a0 a1 a2 x9_0 x29_0 m8900_0) =
    (F36_l0 k a0 a1 a2 n x9_0 x29_0 m8900_0).bind fun r => K (.tup [(false, [.s .own pace r.1]), (false, [.v (.int .i64 r.2)])], []) := by
  induction n with
  | zero => intros; rfl
  | succ n ih =>
    intros
    rw [F36_l0_rd, F36_l0]
    simp only [bind_cond, Option.bind_assoc, Option.bind_some, Option.bind_none, Option.bind_fun_some, ih]
def F36 (k : Nat) (a0 : List (den pace)) (a1 : Int) (a2 : Int) : Option (List (den pace) × Int) :=
  (F18 k a0).bind fun b1 =>
    cond ((!b1))
      (some ([], 0))
      ((F49 k a1 1 1000).bind fun b2 =>
        cond ((!b2))
          (some ([], 0))
          ((F49 k a2 0 200).bind fun b3 =>
            cond ((!b3))
              (some ([], 0))
              ((F62 k a0).bind fun b4 =>
                F36_l0 k a0 a1 a2 k 0 0 b4)))
theorem F36_st {β : Type} (k : Nat) (a0 : List (den pace)) (a1 : Int) (a2 : Int) (K : A × List (List Leaf) → Option β) : evalF (F36_E k) Try.f36 [.one (.l (.s .ro pace a0)), .one (.l (.v (.int .i64 a1))), .one (.l (.v (.int .i64 a2)))] K =
    (F18 k a0).bind fun b1 =>
      cond ((!b1))
        (K (.tup [(false, [.s .own pace []]), (false, [.v (.int .i64 0)])], []))
        ((F49 k a1 1 1000).bind fun b2 =>
          cond ((!b2))
            (K (.tup [(false, [.s .own pace []]), (false, [.v (.int .i64 0)])], []))
            ((F49 k a2 0 200).bind fun b3 =>
              cond ((!b3))
                (K (.tup [(false, [.s .own pace []]), (false, [.v (.int .i64 0)])], []))
                ((F62 k a0).bind fun b4 =>
                  loopG (F36_E k) Try.f36 [1, 1, 1, 0, 1, 0] 0 (kontAt (F36_E k) [1, 1, 1, 0, 1, 0] (bodyOf Try.f36) 0 (endC (F36_E k) Try.f36 [.one (.l (.s .ro pace a0)), .one (.l (.v (.int .i64 a1))), .one (.l (.v (.int .i64 a2)))] K)) k (F36_s0 a0 a1 a2 0 0 b4)))) := by kernel_rfl
theorem F36_ev {β : Type} (k : Nat) (a0 : List (den pace)) (a1 : Int) (a2 : Int) (K : A × List (List Leaf) → Option β) : evalF (F36_E k) Try.f36 [.one (.l (.s .ro pace a0)), .one (.l (.v (.int .i64 a1))), .one (.l (.v (.int .i64 a2)))] K = (F36 k a0 a1 a2).bind fun r => K (.tup [(false, [.s .own pace r.1]), (false, [.v (.int .i64 r.2)])], []) := by
  rw [F36_st, F36]
  simp only [bind_cond, Option.bind_assoc, Option.bind_some, Option.bind_none, Option.bind_fun_some, F36_l0_lp]
theorem F36_tOk (k : Nat) : TabFn Try.prog (F36_t k) := by
  constructor <;> intro f xs cr h <;> unfold F36_t at h <;> split at h <;> first | (simp only [Option.some.injEq] at h; subst h) | (simp at h; done)
  · exact F18_con _ _
  · exact F49_con _ _ _ _
  · exact F62_con _ _
  · exact F54_con _ _
  · exact F59_con _ _ _
  · exact .of (by kernel_rfl)
  · exact .of (by kernel_rfl)
  · exact .of (by kernel_rfl)
  · exact .of (by kernel_rfl)
  · exact .of (by kernel_rfl)
theorem F36_con (k : Nat) (a0 : List (den pace)) (a1 : Int) (a2 : Int) : Contract Try.prog 36 [.one (.l (.s .ro pace a0)), .one (.l (.v (.int .i64 a1))), .one (.l (.v (.int .i64 a2)))] ⟨F36 k a0 a1 a2, fun r => (.tup [(false, [.s .own pace r.1]), (false, [.v (.int .i64 r.2)])], [])⟩ :=
  con_of (envOk (F36_tOk k) _ _ _ _) mixed Try.func36 rfl rfl (F36_ev k a0 a1 a2 some)
/-! 12: loop.example/netstack/laws.FnExactSharedRun -/
def F12_t (k : Nat) : Tab
  | 15, [.one (.l (.s .ro (.pair (.int .i64) (.pair (.int .i64) (.int .i64))) a0)), .one (.l (.v (.int .i64 a1)))] => some ⟨F15 k a0 a1, fun r => (.one (.v (.int .i64 r)), [])⟩
  | 17, [.one (.l (.s .ro (.pair (.int .i64) (.pair (.int .i64) (.int .i64))) a0))] => some ⟨F17 k a0, fun r => (.one (.s .own pace r), [])⟩
  | 35, [.one (.l (.s .ro (.pair (.int .i64) (.pair (.int .i64) (.int .i64))) a0)), .one (.l (.v (.int .i64 a1))), .one (.l (.v (.int .i64 a2)))] => some ⟨F35 k a0 a1 a2, fun r => (.tup [(false, [.s .own pace r.1]), (false, [.v (.int .i64 r.2)])], [])⟩
  | 36, [.one (.l (.s .ro (.pair (.int .i64) (.pair (.int .i64) (.int .i64))) a0)), .one (.l (.v (.int .i64 a1))), .one (.l (.v (.int .i64 a2)))] => some ⟨F36 k a0 a1 a2, fun r => (.tup [(false, [.s .own pace r.1]), (false, [.v (.int .i64 r.2)])], [])⟩
  | 19, [.one (.l (.s .ro (.pair (.int .i64) (.pair (.int .i64) (.int .i64))) a0)), .one (.l (.s .ro (.pair (.int .i64) (.pair (.int .i64) (.int .i64))) a1))] => some ⟨F19 k a0 a1, fun r => (.one (.v (.bool r)), [])⟩
  | 31, [.one (.b (.s .own (.pair (.int .i64) (.pair (.int .i64) (.int .i64))) a0)), .one (.l (.v (.int .i64 a1)))] => some ⟨F31 k a0 a1, fun r => (.one (.v (.int .i64 r.1)), [[.s .own pace r.2]])⟩
  | 32, [.one (.l (.s .ro (.pair (.int .i64) (.pair (.int .i64) (.int .i64))) a0)), .one (.l (.v (.int .i64 a1)))] => some ⟨F32 k a0 a1, fun r => (.one (.v (.int .i64 r)), [])⟩
  | _, _ => none
abbrev F12_E (k : Nat) : Env := env (F12_t k) noHint .own [] k
def F12 (k : Nat) (a0 : List (den pace)) (a1 : Int) (a2 : Int) : Option (Bool) :=
  (F15 k a0 1048576).bind fun b1 =>
    cond (decide (b1 < 0))
      (some true)
      ((F17 k a0).bind fun b2 =>
        (F35 k b2 a1 a2).bind fun b3 =>
          (F17 k a0).bind fun b4 =>
            (F36 k b4 a1 a2).bind fun b5 =>
              (F19 k b5.1 b3.1).bind fun b6 =>
                cond ((!b6))
                  (some false)
                  (cond ((b5.2 != b3.2))
                    (some false)
                    ((F17 k a0).bind fun b7 =>
                      (F19 k b4 b7).bind fun b8 =>
                        cond ((!b8))
                          (some false)
                          ((F31 k b4 1).bind fun b9 =>
                            cond (decide (b9.1 < 0))
                              (some false)
                              ((F19 k b5.1 b3.1).bind fun b10 =>
                                cond ((!b10))
                                  (some false)
                                  (cond ((b5.2 != b3.2))
                                    (some false)
                                    ((F31 k b5.1 1).bind fun b11 =>
                                      (F32 k b11.2 1).bind fun b12 =>
                                        cond (decide (b12 < 0))
                                          (some false)
                                          (cond ((b12 != b11.1))
                                            (some false)
                                            ((F17 k a0).bind fun b13 =>
                                              (F36 k b13 a1 a2).bind fun b14 =>
                                                (F19 k b14.1 b3.1).bind fun b15 =>
                                                  cond ((!b15))
                                                    (some false)
                                                    (cond ((b14.2 != b3.2))
                                                      (some false)
                                                      ((F32 k b11.2 1).bind fun b16 =>
                                                        cond (decide (b16 < 0))
                                                          (some false)
                                                          (cond ((b16 != b11.1))
                                                            (some false)
                                                            (some true)))))))))))))
theorem F12_st {β : Type} (k : Nat) (a0 : List (den pace)) (a1 : Int) (a2 : Int) (K : A × List (List Leaf) → Option β) : evalF (F12_E k) Try.f12 [.one (.l (.s .ro pace a0)), .one (.l (.v (.int .i64 a1))), .one (.l (.v (.int .i64 a2)))] K =
    (F15 k a0 1048576).bind fun b1 =>
      cond (decide (b1 < 0))
        (K (.one (.v (.bool true)), []))
        ((F17 k a0).bind fun b2 =>
          (F35 k b2 a1 a2).bind fun b3 =>
            (F17 k a0).bind fun b4 =>
              (F36 k b4 a1 a2).bind fun b5 =>
                (F19 k b5.1 b3.1).bind fun b6 =>
                  cond ((!b6))
                    (K (.one (.v (.bool false)), []))
                    (cond ((b5.2 != b3.2))
                      (K (.one (.v (.bool false)), []))
                      ((F17 k a0).bind fun b7 =>
                        (F19 k b4 b7).bind fun b8 =>
                          cond ((!b8))
                            (K (.one (.v (.bool false)), []))
                            ((F31 k b4 1).bind fun b9 =>
                              cond (decide (b9.1 < 0))
                                (K (.one (.v (.bool false)), []))
                                ((F19 k b5.1 b3.1).bind fun b10 =>
                                  cond ((!b10))
                                    (K (.one (.v (.bool false)), []))
                                    (cond ((b5.2 != b3.2))
                                      (K (.one (.v (.bool false)), []))
                                      ((F31 k b5.1 1).bind fun b11 =>
                                        (F32 k b11.2 1).bind fun b12 =>
                                          cond (decide (b12 < 0))
                                            (K (.one (.v (.bool false)), []))
                                            (cond ((b12 != b11.1))
                                              (K (.one (.v (.bool false)), []))
                                              ((F17 k a0).bind fun b13 =>
                                                (F36 k b13 a1 a2).bind fun b14 =>
                                                  (F19 k b14.1 b3.1).bind fun b15 =>
                                                    cond ((!b15))
                                                      (K (.one (.v (.bool false)), []))
                                                      (cond ((b14.2 != b3.2))
                                                        (K (.one (.v (.bool false)), []))
                                                        ((F32 k b11.2 1).bind fun b16 =>
                                                          cond (decide (b16 < 0))
                                                            (K (.one (.v (.bool false)), []))
                                                            (cond ((b16 != b11.1))
                                                              (K (.one (.v (.bool false)), []))
                                                              (K (.one (.v (.bool true)), [])))))))))))))) := by kernel_rfl
theorem F12_ev {β : Type} (k : Nat) (a0 : List (den pace)) (a1 : Int) (a2 : Int) (K : A × List (List Leaf) → Option β) : evalF (F12_E k) Try.f12 [.one (.l (.s .ro pace a0)), .one (.l (.v (.int .i64 a1))), .one (.l (.v (.int .i64 a2)))] K = (F12 k a0 a1 a2).bind fun r => K (.one (.v (.bool r)), []) := by
  rw [F12_st, F12]
  simp only [bind_cond, Option.bind_assoc, Option.bind_some, Option.bind_none, Option.bind_fun_some]
theorem F12_tOk (k : Nat) : TabFn Try.prog (F12_t k) := by
  constructor <;> intro f xs cr h <;> unfold F12_t at h <;> split at h <;> first | (simp only [Option.some.injEq] at h; subst h) | (simp at h; done)
  · exact F15_con _ _ _
  · exact F17_con _ _
  · exact F35_con _ _ _ _
  · exact F36_con _ _ _ _
  · exact F19_con _ _ _
  · exact F31_con _ _ _
  · exact F32_con _ _ _
  · exact .of (by kernel_rfl)
  · exact .of (by kernel_rfl)
  · exact .of (by kernel_rfl)
  · exact .of (by kernel_rfl)
  · exact .of (by kernel_rfl)
  · exact .of (by kernel_rfl)
  · exact .of (by kernel_rfl)
theorem F12_con (k : Nat) (a0 : List (den pace)) (a1 : Int) (a2 : Int) : Contract Try.prog 12 [.one (.l (.s .ro pace a0)), .one (.l (.v (.int .i64 a1))), .one (.l (.v (.int .i64 a2)))] ⟨F12 k a0 a1 a2, fun r => (.one (.v (.bool r)), [])⟩ :=
  con_of (envOk (F12_tOk k) _ _ _ _) mixed Try.func12 rfl rfl (F12_ev k a0 a1 a2 some)
/-! 56: loop.example/netstack/spec.l20Open -/
abbrev F56_E (k : Nat) : Env := env noTab noHint .own [] k
def F56 (k : Nat) (a0 : List (den (.int .u8))) : Option (List (den (.int .u8)) × Int) :=
  cond (decide (((a0.length : Nat) : Int) > 2000))
    (cond ((decide (0 ≤ 2000) && decide (2000 ≤ ((a0.length : Nat) : Int))))
      (some (a0.take 2000, 0))
      (none))
    (some (a0, 0))
theorem F56_st {β : Type} (k : Nat) (a0 : List (den (.int .u8))) (K : A × List (List Leaf) → Option β) : evalF (F56_E k) Try.f56 [.one (.l (.s .ro (.int .u8) a0))] K =
    cond (decide (((a0.length : Nat) : Int) > 2000))
      (cond ((decide (0 ≤ 2000) && decide (2000 ≤ ((a0.length : Nat) : Int))))
        (K (.one (.ptr (.cell 0) 2 0), [[.s .ro (.int .u8) (a0.take 2000), .v (.int .i64 0)]]))
        (none))
      (K (.one (.ptr (.cell 0) 2 0), [[.s .ro (.int .u8) a0, .v (.int .i64 0)]])) := by kernel_rfl
theorem F56_ev {β : Type} (k : Nat) (a0 : List (den (.int .u8))) (K : A × List (List Leaf) → Option β) : evalF (F56_E k) Try.f56 [.one (.l (.s .ro (.int .u8) a0))] K = (F56 k a0).bind fun r => K (.one (.ptr (.cell 0) 2 0), [[.s .ro (.int .u8) r.1, .v (.int .i64 r.2)]]) := by
  rw [F56_st, F56]
  simp only [bind_cond, Option.bind_assoc, Option.bind_some, Option.bind_none, Option.bind_fun_some]
theorem F56_con (k : Nat) (a0 : List (den (.int .u8))) : Contract Try.prog 56 [.one (.l (.s .ro (.int .u8) a0))] ⟨F56 k a0, fun r => (.one (.ptr (.cell 0) 2 0), [[.s .ro (.int .u8) r.1, .v (.int .i64 r.2)]])⟩ :=
  con_of (envOk .none _ _ _ _) mixed Try.func56 rfl rfl (F56_ev k a0 some)
/-! 58: (*loop.example/netstack/spec.l20Rd).pick -/
abbrev F58_E (k : Nat) : Env := env noTab noHint .own [(false, 0), (false, 1)] k
def F58 (k : Nat) (a0_0 : List (den (.int .u8))) (a0_1 : Int) (a1 : Int) : Option (Int × List (den (.int .u8)) × Int) :=
  cond (decide (a1 < 1))
    (some (0, a0_0, IntKind.i64.wrap (a0_1 + 1)))
    (cond ((((a0_0.length : Nat) : Int) == 0))
      (some (0, a0_0, IntKind.i64.wrap (a0_1 + 1)))
      (cond (decide ((IntKind.i64.wrap ((IntKind.i64.wrap (a0_1 + 1)) - 1)) < ((a0_0.length : Nat) : Int)))
        (cond (decide (0 ≤ (IntKind.i64.wrap ((IntKind.i64.wrap (a0_1 + 1)) - 1))))
          (cond (decide ((IntKind.i64.wrap ((IntKind.i64.wrap (a0_1 + 1)) - 1)) < ((a0_0.length : Nat) : Int)))
            (cond (decide (a1 = 0))
              (none)
              (some (((IntKind.i64.wrap (atI a0_0 (IntKind.i64.wrap ((IntKind.i64.wrap (a0_1 + 1)) - 1)))).tmod a1), a0_0, IntKind.i64.wrap (a0_1 + 1))))
            (none))
          (none))
        (cond (decide (((a0_0.length : Nat) : Int) = 0))
          (none)
          (cond (decide (0 ≤ ((IntKind.i64.wrap ((IntKind.i64.wrap (a0_1 + 1)) - 1)).tmod ((a0_0.length : Nat) : Int))))
            (cond (decide (((IntKind.i64.wrap ((IntKind.i64.wrap (a0_1 + 1)) - 1)).tmod ((a0_0.length : Nat) : Int)) < ((a0_0.length : Nat) : Int)))
              (cond (decide (((a0_0.length : Nat) : Int) = 0))
                (none)
                (cond (decide (0 ≤ ((IntKind.i64.wrap ((IntKind.i64.wrap ((IntKind.i64.wrap ((IntKind.i64.wrap (a0_1 + 1)) - 1)) * 7)) + 3)).tmod ((a0_0.length : Nat) : Int))))
                  (cond (decide (((IntKind.i64.wrap ((IntKind.i64.wrap ((IntKind.i64.wrap ((IntKind.i64.wrap (a0_1 + 1)) - 1)) * 7)) + 3)).tmod ((a0_0.length : Nat) : Int)) < ((a0_0.length : Nat) : Int)))
                    (cond (decide (((a0_0.length : Nat) : Int) = 0))
                      (none)
                      (cond (decide (a1 = 0))
                        (none)
                        (some (((bitsOf .xor .i64 (IntKind.i64.wrap ((IntKind.i64.wrap ((IntKind.i64.wrap ((IntKind.i64.wrap ((IntKind.i64.wrap (atI a0_0 ((IntKind.i64.wrap ((IntKind.i64.wrap (a0_1 + 1)) - 1)).tmod ((a0_0.length : Nat) : Int)))) * 131)) + (IntKind.i64.wrap ((IntKind.i64.wrap (atI a0_0 ((IntKind.i64.wrap ((IntKind.i64.wrap ((IntKind.i64.wrap ((IntKind.i64.wrap (a0_1 + 1)) - 1)) * 7)) + 3)).tmod ((a0_0.length : Nat) : Int)))) * 1117)))) + (IntKind.i64.wrap ((IntKind.i64.wrap ((IntKind.i64.wrap (a0_1 + 1)) - 1)) * 29)))) + (IntKind.i64.wrap ((IntKind.i64.wrap ((IntKind.i64.wrap ((IntKind.i64.wrap (a0_1 + 1)) - 1)).tdiv ((a0_0.length : Nat) : Int))) * 53)))) (IntKind.i64.wrap ((IntKind.i64.wrap ((IntKind.i64.wrap ((IntKind.i64.wrap ((IntKind.i64.wrap ((IntKind.i64.wrap (atI a0_0 ((IntKind.i64.wrap ((IntKind.i64.wrap (a0_1 + 1)) - 1)).tmod ((a0_0.length : Nat) : Int)))) * 131)) + (IntKind.i64.wrap ((IntKind.i64.wrap (atI a0_0 ((IntKind.i64.wrap ((IntKind.i64.wrap ((IntKind.i64.wrap ((IntKind.i64.wrap (a0_1 + 1)) - 1)) * 7)) + 3)).tmod ((a0_0.length : Nat) : Int)))) * 1117)))) + (IntKind.i64.wrap ((IntKind.i64.wrap ((IntKind.i64.wrap (a0_1 + 1)) - 1)) * 29)))) + (IntKind.i64.wrap ((IntKind.i64.wrap ((IntKind.i64.wrap ((IntKind.i64.wrap (a0_1 + 1)) - 1)).tdiv ((a0_0.length : Nat) : Int))) * 53)))).tdiv 64))).tmod a1), a0_0, IntKind.i64.wrap (a0_1 + 1)))))
                    (none))
                  (none)))
              (none))
            (none)))))
theorem F58_st {β : Type} (k : Nat) (a0_0 : List (den (.int .u8))) (a0_1 : Int) (a1 : Int) (K : A × List (List Leaf) → Option β) : evalF (F58_E k) Try.f58 [.one (.p [.s .ro (.int .u8) a0_0, .v (.int .i64 a0_1)]), .one (.l (.v (.int .i64 a1)))] K =
    cond (decide (a1 < 1))
      (K (.one (.v (.int .i64 0)), [[.s .ro (.int .u8) a0_0, .v (.int .i64 (IntKind.i64.wrap (a0_1 + 1)))]]))
      (cond ((((a0_0.length : Nat) : Int) == 0))
        (K (.one (.v (.int .i64 0)), [[.s .ro (.int .u8) a0_0, .v (.int .i64 (IntKind.i64.wrap (a0_1 + 1)))]]))
        (cond (decide ((IntKind.i64.wrap ((IntKind.i64.wrap (a0_1 + 1)) - 1)) < ((a0_0.length : Nat) : Int)))
          (cond (decide (0 ≤ (IntKind.i64.wrap ((IntKind.i64.wrap (a0_1 + 1)) - 1))))
            (cond (decide ((IntKind.i64.wrap ((IntKind.i64.wrap (a0_1 + 1)) - 1)) < ((a0_0.length : Nat) : Int)))
              (cond (decide (a1 = 0))
                (none)
                (K (.one (.v (.int .i64 ((IntKind.i64.wrap (atI a0_0 (IntKind.i64.wrap ((IntKind.i64.wrap (a0_1 + 1)) - 1)))).tmod a1))), [[.s .ro (.int .u8) a0_0, .v (.int .i64 (IntKind.i64.wrap (a0_1 + 1)))]])))
              (none))
            (none))
          (cond (decide (((a0_0.length : Nat) : Int) = 0))
            (none)
            (cond (decide (0 ≤ ((IntKind.i64.wrap ((IntKind.i64.wrap (a0_1 + 1)) - 1)).tmod ((a0_0.length : Nat) : Int))))
              (cond (decide (((IntKind.i64.wrap ((IntKind.i64.wrap (a0_1 + 1)) - 1)).tmod ((a0_0.length : Nat) : Int)) < ((a0_0.length : Nat) : Int)))
                (cond (decide (((a0_0.length : Nat) : Int) = 0))
                  (none)
                  (cond (decide (0 ≤ ((IntKind.i64.wrap ((IntKind.i64.wrap ((IntKind.i64.wrap ((IntKind.i64.wrap (a0_1 + 1)) - 1)) * 7)) + 3)).tmod ((a0_0.length : Nat) : Int))))
                    (cond (decide (((IntKind.i64.wrap ((IntKind.i64.wrap ((IntKind.i64.wrap ((IntKind.i64.wrap (a0_1 + 1)) - 1)) * 7)) + 3)).tmod ((a0_0.length : Nat) : Int)) < ((a0_0.length : Nat) : Int)))
                      (cond (decide (((a0_0.length : Nat) : Int) = 0))
                        (none)
                        (cond (decide (a1 = 0))
                          (none)
                          (K (.one (.v (.int .i64 ((bitsOf .xor .i64 (IntKind.i64.wrap ((IntKind.i64.wrap ((IntKind.i64.wrap ((IntKind.i64.wrap ((IntKind.i64.wrap (atI a0_0 ((IntKind.i64.wrap ((IntKind.i64.wrap (a0_1 + 1)) - 1)).tmod ((a0_0.length : Nat) : Int)))) * 131)) + (IntKind.i64.wrap ((IntKind.i64.wrap (atI a0_0 ((IntKind.i64.wrap ((IntKind.i64.wrap ((IntKind.i64.wrap ((IntKind.i64.wrap (a0_1 + 1)) - 1)) * 7)) + 3)).tmod ((a0_0.length : Nat) : Int)))) * 1117)))) + (IntKind.i64.wrap ((IntKind.i64.wrap ((IntKind.i64.wrap (a0_1 + 1)) - 1)) * 29)))) + (IntKind.i64.wrap ((IntKind.i64.wrap ((IntKind.i64.wrap ((IntKind.i64.wrap (a0_1 + 1)) - 1)).tdiv ((a0_0.length : Nat) : Int))) * 53)))) (IntKind.i64.wrap ((IntKind.i64.wrap ((IntKind.i64.wrap ((IntKind.i64.wrap ((IntKind.i64.wrap ((IntKind.i64.wrap (atI a0_0 ((IntKind.i64.wrap ((IntKind.i64.wrap (a0_1 + 1)) - 1)).tmod ((a0_0.length : Nat) : Int)))) * 131)) + (IntKind.i64.wrap ((IntKind.i64.wrap (atI a0_0 ((IntKind.i64.wrap ((IntKind.i64.wrap ((IntKind.i64.wrap ((IntKind.i64.wrap (a0_1 + 1)) - 1)) * 7)) + 3)).tmod ((a0_0.length : Nat) : Int)))) * 1117)))) + (IntKind.i64.wrap ((IntKind.i64.wrap ((IntKind.i64.wrap (a0_1 + 1)) - 1)) * 29)))) + (IntKind.i64.wrap ((IntKind.i64.wrap ((IntKind.i64.wrap ((IntKind.i64.wrap (a0_1 + 1)) - 1)).tdiv ((a0_0.length : Nat) : Int))) * 53)))).tdiv 64))).tmod a1))), [[.s .ro (.int .u8) a0_0, .v (.int .i64 (IntKind.i64.wrap (a0_1 + 1)))]]))))
                      (none))
                    (none)))
                (none))
              (none))))) := by kernel_rfl
theorem F58_ev {β : Type} (k : Nat) (a0_0 : List (den (.int .u8))) (a0_1 : Int) (a1 : Int) (K : A × List (List Leaf) → Option β) : evalF (F58_E k) Try.f58 [.one (.p [.s .ro (.int .u8) a0_0, .v (.int .i64 a0_1)]), .one (.l (.v (.int .i64 a1)))] K = (F58 k a0_0 a0_1 a1).bind fun r => K (.one (.v (.int .i64 r.1)), [[.s .ro (.int .u8) r.2.1, .v (.int .i64 r.2.2)]]) := by
  rw [F58_st, F58]
  simp only [bind_cond, Option.bind_assoc, Option.bind_some, Option.bind_none, Option.bind_fun_some]
theorem F58_con (k : Nat) (a0_0 : List (den (.int .u8))) (a0_1 : Int) (a1 : Int) : Contract Try.prog 58 [.one (.p [.s .ro (.int .u8) a0_0, .v (.int .i64 a0_1)]), .one (.l (.v (.int .i64 a1)))] ⟨F58 k a0_0 a0_1 a1, fun r => (.one (.v (.int .i64 r.1)), [[.s .ro (.int .u8) r.2.1, .v (.int .i64 r.2.2)]])⟩ :=
  con_of (envOk .none _ _ _ _) mixed Try.func58 rfl rfl (F58_ev k a0_0 a0_1 a1 some)
/-! 82: (*loop.example/netstack/spec.l20Rd).odd -/
def F82_t (k : Nat) : Tab
  | 58, [.one (.p [.s .ro (.int .u8) a0_0, .v (.int .i64 a0_1)]), .one (.l (.v (.int .i64 a1)))] => some ⟨F58 k a0_0 a0_1 a1, fun r => (.one (.v (.int .i64 r.1)), [[.s .ro (.int .u8) r.2.1, .v (.int .i64 r.2.2)]])⟩
  | _, _ => none
abbrev F82_E (k : Nat) : Env := env (F82_t k) noHint .own [(false, 0), (false, 1)] k
def F82 (k : Nat) (a0_0 : List (den (.int .u8))) (a0_1 : Int) (a1 : Int) : Option (Bool × List (den (.int .u8)) × Int) :=
  cond (decide (a1 > 0))
    ((F58 k a0_0 a0_1 a1).bind fun b1 =>
      some ((b1.1 == (IntKind.i64.wrap (a1 - 1))), b1.2.1, b1.2.2))
    (some (false, a0_0, a0_1))
theorem F82_st {β : Type} (k : Nat) (a0_0 : List (den (.int .u8))) (a0_1 : Int) (a1 : Int) (K : A × List (List Leaf) → Option β) : evalF (F82_E k) Try.f82 [.one (.p [.s .ro (.int .u8) a0_0, .v (.int .i64 a0_1)]), .one (.l (.v (.int .i64 a1)))] K =
    cond (decide (a1 > 0))
      ((F58 k a0_0 a0_1 a1).bind fun b1 =>
        K (.one (.v (.bool (b1.1 == (IntKind.i64.wrap (a1 - 1))))), [[.s .ro (.int .u8) b1.2.1, .v (.int .i64 b1.2.2)]]))
      (K (.one (.v (.bool false)), [[.s .ro (.int .u8) a0_0, .v (.int .i64 a0_1)]])) := by kernel_rfl
theorem F82_ev {β : Type} (k : Nat) (a0_0 : List (den (.int .u8))) (a0_1 : Int) (a1 : Int) (K : A × List (List Leaf) → Option β) : evalF (F82_E k) Try.f82 [.one (.p [.s .ro (.int .u8) a0_0, .v (.int .i64 a0_1)]), .one (.l (.v (.int .i64 a1)))] K = (F82 k a0_0 a0_1 a1).bind fun r => K (.one (.v (.bool r.1)), [[.s .ro (.int .u8) r.2.1, .v (.int .i64 r.2.2)]]) := by
  rw [F82_st, F82]
  simp only [bind_cond, Option.bind_assoc, Option.bind_some, Option.bind_none, Option.bind_fun_some]
theorem F82_tOk (k : Nat) : TabFn Try.prog (F82_t k) := by
  constructor <;> intro f xs cr h <;> unfold F82_t at h <;> split at h <;> first | (simp only [Option.some.injEq] at h; subst h) | (simp at h; done)
  · exact F58_con _ _ _ _
  · exact .of (by kernel_rfl)
theorem F82_con (k : Nat) (a0_0 : List (den (.int .u8))) (a0_1 : Int) (a1 : Int) : Contract Try.prog 82 [.one (.p [.s .ro (.int .u8) a0_0, .v (.int .i64 a0_1)]), .one (.l (.v (.int .i64 a1)))] ⟨F82 k a0_0 a0_1 a1, fun r => (.one (.v (.bool r.1)), [[.s .ro (.int .u8) r.2.1, .v (.int .i64 r.2.2)]])⟩ :=
  con_of (envOk (F82_tOk k) _ _ _ _) mixed Try.func82 rfl rfl (F82_ev k a0_0 a0_1 a1 some)
/-! 81: loop.example/netstack/spec.l20Pace -/
def F81_t (k : Nat) : Tab
  | 58, [.one (.p [.s .ro (.int .u8) a0_0, .v (.int .i64 a0_1)]), .one (.l (.v (.int .i64 a1)))] => some ⟨F58 k a0_0 a0_1 a1, fun r => (.one (.v (.int .i64 r.1)), [[.s .ro (.int .u8) r.2.1, .v (.int .i64 r.2.2)]])⟩
  | 82, [.one (.p [.s .ro (.int .u8) a0_0, .v (.int .i64 a0_1)]), .one (.l (.v (.int .i64 a1)))] => some ⟨F82 k a0_0 a0_1 a1, fun r => (.one (.v (.bool r.1)), [[.s .ro (.int .u8) r.2.1, .v (.int .i64 r.2.2)]])⟩
  | _, _ => none
abbrev F81_E (k : Nat) : Env := env (F81_t k) noHint .own [(false, 0), (false, 1)] k
def F81 (k : Nat) (a0_0 : List (den (.int .u8))) (a0_1 : Int) (a1 : Int) : Option (Int × Int × Int × List (den (.int .u8)) × Int) :=
  (F58 k a0_0 a0_1 64).bind fun b1 =>
    (F58 k b1.2.1 b1.2.2 63).bind fun b2 =>
      (F58 k b2.2.1 b2.2.2 (IntKind.i64.wrap (1 + b1.1))).bind fun b3 =>
        (F82 k b3.2.1 b3.2.2 a1).bind fun b4 =>
          cond (b4.1)
            ((F58 k b4.2.1 b4.2.2 3).bind fun b5 =>
              cond ((b5.1 == 0))
                ((F58 k b5.2.1 b5.2.2 2).bind fun b6 =>
                  some (IntKind.i64.wrap (b6.1 * 65), IntKind.i64.wrap (2 + b2.1), b3.1, b6.2.1, b6.2.2))
                (cond ((b5.1 == 1))
                  ((F58 k b5.2.1 b5.2.2 2).bind fun b7 =>
                    some (IntKind.i64.wrap (1 + b1.1), b7.1, b3.1, b7.2.1, b7.2.2))
                  (some (IntKind.i64.wrap (1 + b1.1), IntKind.i64.wrap (2 + b2.1), IntKind.i64.wrap (1 + b1.1), b5.2.1, b5.2.2))))
            (some (IntKind.i64.wrap (1 + b1.1), IntKind.i64.wrap (2 + b2.1), b3.1, b4.2.1, b4.2.2))
theorem F81_st {β : Type} (k : Nat) (a0_0 : List (den (.int .u8))) (a0_1 : Int) (a1 : Int) (K : A × List (List Leaf) → Option β) : evalF (F81_E k) Try.f81 [.one (.p [.s .ro (.int .u8) a0_0, .v (.int .i64 a0_1)]), .one (.l (.v (.int .i64 a1)))] K =
    (F58 k a0_0 a0_1 64).bind fun b1 =>
      (F58 k b1.2.1 b1.2.2 63).bind fun b2 =>
        (F58 k b2.2.1 b2.2.2 (IntKind.i64.wrap (1 + b1.1))).bind fun b3 =>
          (F82 k b3.2.1 b3.2.2 a1).bind fun b4 =>
            cond (b4.1)
              ((F58 k b4.2.1 b4.2.2 3).bind fun b5 =>
                cond ((b5.1 == 0))
                  ((F58 k b5.2.1 b5.2.2 2).bind fun b6 =>
                    K (.agg [.v (.int .i64 (IntKind.i64.wrap (b6.1 * 65))), .v (.int .i64 (IntKind.i64.wrap (2 + b2.1))), .v (.int .i64 b3.1)], [[.s .ro (.int .u8) b6.2.1, .v (.int .i64 b6.2.2)]]))
                  (cond ((b5.1 == 1))
                    ((F58 k b5.2.1 b5.2.2 2).bind fun b7 =>
                      K (.agg [.v (.int .i64 (IntKind.i64.wrap (1 + b1.1))), .v (.int .i64 b7.1), .v (.int .i64 b3.1)], [[.s .ro (.int .u8) b7.2.1, .v (.int .i64 b7.2.2)]]))
                    (K (.agg [.v (.int .i64 (IntKind.i64.wrap (1 + b1.1))), .v (.int .i64 (IntKind.i64.wrap (2 + b2.1))), .v (.int .i64 (IntKind.i64.wrap (1 + b1.1)))], [[.s .ro (.int .u8) b5.2.1, .v (.int .i64 b5.2.2)]]))))
              (K (.agg [.v (.int .i64 (IntKind.i64.wrap (1 + b1.1))), .v (.int .i64 (IntKind.i64.wrap (2 + b2.1))), .v (.int .i64 b3.1)], [[.s .ro (.int .u8) b4.2.1, .v (.int .i64 b4.2.2)]])) := by kernel_rfl
theorem F81_ev {β : Type} (k : Nat) (a0_0 : List (den (.int .u8))) (a0_1 : Int) (a1 : Int) (K : A × List (List Leaf) → Option β) : evalF (F81_E k) Try.f81 [.one (.p [.s .ro (.int .u8) a0_0, .v (.int .i64 a0_1)]), .one (.l (.v (.int .i64 a1)))] K = (F81 k a0_0 a0_1 a1).bind fun r => K (.agg [.v (.int .i64 r.1), .v (.int .i64 r.2.1), .v (.int .i64 r.2.2.1)], [[.s .ro (.int .u8) r.2.2.2.1, .v (.int .i64 r.2.2.2.2)]]) := by
  rw [F81_st, F81]
  simp only [bind_cond, Option.bind_assoc, Option.bind_some, Option.bind_none, Option.bind_fun_some]
theorem F81_tOk (k : Nat) : TabFn Try.prog (F81_t k) := by
  constructor <;> intro f xs cr h <;> unfold F81_t at h <;> split at h <;> first | (simp only [Option.some.injEq] at h; subst h) | (simp at h; done)
  · exact F58_con _ _ _ _
  · exact F82_con _ _ _ _
  · exact .of (by kernel_rfl)
  · exact .of (by kernel_rfl)
theorem F81_con (k : Nat) (a0_0 : List (den (.int .u8))) (a0_1 : Int) (a1 : Int) : Contract Try.prog 81 [.one (.p [.s .ro (.int .u8) a0_0, .v (.int .i64 a0_1)]), .one (.l (.v (.int .i64 a1)))] ⟨F81 k a0_0 a0_1 a1, fun r => (.agg [.v (.int .i64 r.1), .v (.int .i64 r.2.1), .v (.int .i64 r.2.2.1)], [[.s .ro (.int .u8) r.2.2.2.1, .v (.int .i64 r.2.2.2.2)]])⟩ :=
  con_of (envOk (F81_tOk k) _ _ _ _) mixed Try.func81 rfl rfl (F81_ev k a0_0 a0_1 a1 some)
/-! 55: loop.example/netstack/spec.l20Shared -/
def F55_h : Nat → Hint
  | 0 => ⟨[(0, .plain), (1, .plain), (5, .own .own pace []), (6, .plain)], [(0, .plain), (1, .plain)]⟩
  | _ => ⟨[], []⟩
def F55_t (k : Nat) : Tab
  | 58, [.one (.p [.s .ro (.int .u8) a0_0, .v (.int .i64 a0_1)]), .one (.l (.v (.int .i64 a1)))] => some ⟨F58 k a0_0 a0_1 a1, fun r => (.one (.v (.int .i64 r.1)), [[.s .ro (.int .u8) r.2.1, .v (.int .i64 r.2.2)]])⟩
  | 81, [.one (.p [.s .ro (.int .u8) a0_0, .v (.int .i64 a0_1)]), .one (.l (.v (.int .i64 a1)))] => some ⟨F81 k a0_0 a0_1 a1, fun r => (.agg [.v (.int .i64 r.1), .v (.int .i64 r.2.1), .v (.int .i64 r.2.2.1)], [[.s .ro (.int .u8) r.2.2.2.1, .v (.int .i64 r.2.2.2.2)]])⟩
  | 82, [.one (.p [.s .ro (.int .u8) a0_0, .v (.int .i64 a0_1)]), .one (.l (.v (.int .i64 a1)))] => some ⟨F82 k a0_0 a0_1 a1, fun r => (.one (.v (.bool r.1)), [[.s .ro (.int .u8) r.2.1, .v (.int .i64 r.2.2)]])⟩
  | _, _ => none
abbrev F55_E (k : Nat) : Env := env (F55_t k) F55_h .own [(false, 0), (false, 1)] k
def F55_s0 (a0_0 : List (den (.int .u8))) (a0_1 : Int) (a1 : Int) (x6_0 : Int) (m0_0 : List (den (.int .u8))) (m1_0 : Int) (m5900_0 : List (den pace)) : St := ⟨[.one (.ptr (.cell 0) 2 0), .one (.v (.int .i64 a1)), .one .d, .one .d, .one .d, .one (.a (.cell 5900) 0 0 none), .one (.v (.int .i64 x6_0)), .one .d, .one .d, .one .d, .one .d, .one .d, .one .d, .one .d, .one .d, .one .d, .one .d, .one .d, .one .d, .one .d, .one .d, .one .d, .one .d, .one .d, .one .d, .one .d, .one .d, .one .d, .one .d, .one .d, .one .d, .one .d, .one .d, .one .d, .one .d, .one .d, .one .d, .one .d, .one .d, .one .d], [(0, ⟨.s .ro (.int .u8) m0_0, 0, 0⟩), (1, ⟨.v (.int .i64 m1_0), 0, 0⟩), (5900, ⟨.s .own pace m5900_0, 0, 0⟩)]⟩
def F55_l0 (k : Nat) (a0_0 : List (den (.int .u8))) (a0_1 : Int) (a1 : Int) : Nat → Int → List (den (.int .u8)) → Int → List (den pace) → Option (List (den pace) × List (den (.int .u8)) × Int)
  | 0, _, _, _, _ => none
  | n + 1, x6_0, m0_0, m1_0, m5900_0 =>
    cond (decide (x6_0 > 0))
      ((F81 k m0_0 m1_0 0).bind fun b2 =>
        cond (decide ((m5900_0.length + [(b2.1, b2.2.1, b2.2.2.1)].length) * 24 ≤ 140737488355328))
          (F55_l0 k a0_0 a0_1 a1 n (IntKind.i64.wrap (x6_0 - 1)) b2.2.2.2.1 b2.2.2.2.2 (m5900_0 ++ [(b2.1, b2.2.1, b2.2.2.1)]))
          (none))
      ((F82 k m0_0 m1_0 a1).bind fun b3 =>
        cond (b3.1)
          ((F58 k b3.2.1 b3.2.2 3).bind fun b4 =>
            cond ((b4.1 == 0))
              (some ([], b4.2.1, b4.2.2))
              (cond ((b4.1 == 1))
                (cond (decide ((m5900_0.length + m5900_0.length) * 24 ≤ 140737488355328))
                  (cond (decide (((m5900_0 ++ m5900_0).length + (m5900_0 ++ m5900_0).length) * 24 ≤ 140737488355328))
                    (some ((m5900_0 ++ m5900_0) ++ (m5900_0 ++ m5900_0), b4.2.1, b4.2.2))
                    (none))
                  (none))
                ((F81 k b4.2.1 b4.2.2 1).bind fun b5 =>
                  cond (decide (0 < ((m5900_0.length : Nat) : Int)))
                    (some (m5900_0.set 0 (b5.1, b5.2.1, b5.2.2.1), b5.2.2.2.1, b5.2.2.2.2))
                    (none))))
          (some (m5900_0, b3.2.1, b3.2.2)))
theorem F55_l0_rd {β : Type} (k n : Nat) (a0_0 : List (den (.int .u8))) (a0_1 : Int) (a1 : Int) (x6_0 : Int) (m0_0 : List (den (.int .u8))) (m1_0 : Int) (m5900_0 : List (den pace)) (K : A × List (List Leaf) → Option β) :
    loopG (F55_E k) Try.f55 [1, 1, 0, 1, 0] 0 (kontAt (F55_E k) [1, 1, 0, 1, 0] (bodyOf Try.f55) 0 (endC (F55_E k) Try.f55 [.one (.p [.s .ro (.int .u8) a0_0, .v (.int .i64 a0_1)]), .one (.l (.v (.int .i64 a1)))] K)) (n + 1) (F55_s0 a0_0 a0_1 a1 x6_0 m0_0 m1_0 m5900_0) =
    cond (decide (x6_0 > 0))
      ((F81 k m0_0 m1_0 0).bind fun b2 =>
        cond (decide ((m5900_0.length + [(b2.1, b2.2.1, b2.2.2.1)].length) * 24 ≤ 140737488355328))
          (loopG (F55_E k) Try.f55 [1, 1, 0, 1, 0] 0 (kontAt (F55_E k) [1, 1, 0, 1, 0] (bodyOf Try.f55) 0 (endC (F55_E k) Try.f55 [.one (.p [.s .ro (.int .u8) a0_0, .v (.int .i64 a0_1)]), .one (.l (.v (.int .i64 a1)))] K)) n (F55_s0 a0_0 a0_1 a1 (IntKind.i64.wrap (x6_0 - 1)) b2.2.2.2.1 b2.2.2.2.2 (m5900_0 ++ [(b2.1, b2.2.1, b2.2.2.1)])))
          (none))
      ((F82 k m0_0 m1_0 a1).bind fun b3 =>
        cond (b3.1)
          ((F58 k b3.2.1 b3.2.2 3).bind fun b4 =>
            cond ((b4.1 == 0))
              (K (.one (.s .own pace []), [[.s .ro (.int .u8) b4.2.1, .v (.int .i64 b4.2.2)]]))
              (cond ((b4.1 == 1))
                (cond (decide ((m5900_0.length + m5900_0.length) * 24 ≤ 140737488355328))
                  (cond (decide (((m5900_0 ++ m5900_0).length + (m5900_0 ++ m5900_0).length) * 24 ≤ 140737488355328))
                    (K (.one (.s .own pace ((m5900_0 ++ m5900_0) ++ (m5900_0 ++ m5900_0))), [[.s .ro (.int .u8) b4.2.1, .v (.int .i64 b4.2.2)]]))
                    (none))
                  (none))
                ((F81 k b4.2.1 b4.2.2 1).bind fun b5 =>
                  cond (decide (0 < ((m5900_0.length : Nat) : Int)))
                    (K (.one (.s .own pace (m5900_0.set 0 (b5.1, b5.2.1, b5.2.2.1))), [[.s .ro (.int .u8) b5.2.2.2.1, .v (.int .i64 b5.2.2.2.2)]]))
                    (none))))
          (K (.one (.s .own pace m5900_0), [[.s .ro (.int .u8) b3.2.1, .v (.int .i64 b3.2.2)]]))) := by kernel_rfl
theorem F55_l0_lp {β : Type} (k : Nat) (a0_0 : List (den (.int .u8))) (a0_1 : Int) (a1 : Int) (K : A × List (List Leaf) → Option β) (n : Nat) : ∀ (x6_0 : Int) (m0_0 : List (den (.int .u8))) (m1_0 : Int) (m5900_0 : List (den pace)), loopG (F55_E k) Try.f55 [1, 1, 0, 1, 0] 0 (kontAt (F55_E k) [1, 1, 0, 1, 0] (bodyOf Try.f55) 0 (endC (F55_E k) Try.f55 [.one (.p [.s .ro (.int .u8) a0_0, .v (.int .i64 a0_1)]), .one (.l (.v (.int .i64 a1)))] K)) n (F55_s0 a0_0 a0_1 a1 x6_0 m0_0 m1_0 m5900_0) =
    (F55_l0 k a0_0 a0_1 a1 n x6_0 m0_0 m1_0 m5900_0).bind fun r => K (.one (.s .own pace r.1), [[.s .ro (.int .u8) r.2.1, .v (.int .i64 r.2.2)]]) := by
  induction n with
  | zero => intros; rfl
  | succ n ih =>
    intros
    rw [F55_l0_rd, F55_l0]
    simp only [bind_cond, Option.bind_assoc, Option.bind_some, Option.bind_none, Option.bind_fun_some, ih]
def F55 (k : Nat) (a0_0 : List (den (.int .u8))) (a0_1 : Int) (a1 : Int) : Option (List (den pace) × List (den (.int .u8)) × Int) :=
  (F58 k a0_0 a0_1 5).bind fun b1 =>
    F55_l0 k a0_0 a0_1 a1 k (IntKind.i64.wrap (1 + b1.1)) b1.2.1 b1.2.2 []
theorem F55_st {β : Type} (k : Nat) (a0_0 : List (den (.int .u8))) (a0_1 : Int) (a1 : Int) (K : A × List (List Leaf) → Option β) : evalF (F55_E k) Try.f55 [.one (.p [.s .ro (.int .u8) a0_0, .v (.int .i64 a0_1)]), .one (.l (.v (.int .i64 a1)))] K =
    (F58 k a0_0 a0_1 5).bind fun b1 =>
      loopG (F55_E k) Try.f55 [1, 1, 0, 1, 0] 0 (kontAt (F55_E k) [1, 1, 0, 1, 0] (bodyOf Try.f55) 0 (endC (F55_E k) Try.f55 [.one (.p [.s .ro (.int .u8) a0_0, .v (.int .i64 a0_1)]), .one (.l (.v (.int .i64 a1)))] K)) k (F55_s0 a0_0 a0_1 a1 (IntKind.i64.wrap (1 + b1.1)) b1.2.1 b1.2.2 []) := by kernel_rfl
theorem F55_ev {β : Type} (k : Nat) (a0_0 : List (den (.int .u8))) (a0_1 : Int) (a1 : Int) (K : A × List (List Leaf) → Option β) : evalF (F55_E k) Try.f55 [.one (.p [.s .ro (.int .u8) a0_0, .v (.int .i64 a0_1)]), .one (.l (.v (.int .i64 a1)))] K = (F55 k a0_0 a0_1 a1).bind fun r => K (.one (.s .own pace r.1), [[.s .ro (.int .u8) r.2.1, .v (.int .i64 r.2.2)]]) := by
  rw [F55_st, F55]
  simp only [bind_cond, Option.bind_assoc, Option.bind_some, Option.bind_none, Option.bind_fun_some, F55_l0_lp]
theorem F55_tOk (k : Nat) : TabFn Try.prog (F55_t k) := by
  constructor <;> intro f xs cr h <;> unfold F55_t at h <;> split at h <;> first | (simp only [Option.some.injEq] at h; subst h) | (simp at h; done)
  · exact F58_con _ _ _ _
  · exact F81_con _ _ _ _
  · exact F82_con _ _ _ _
  · exact .of (by kernel_rfl)
  · exact .of (by kernel_rfl)
  · exact .of (by kernel_rfl)
theorem F55_con (k : Nat) (a0_0 : List (den (.int .u8))) (a0_1 : Int) (a1 : Int) : Contract Try.prog 55 [.one (.p [.s .ro (.int .u8) a0_0, .v (.int .i64 a0_1)]), .one (.l (.v (.int .i64 a1)))] ⟨F55 k a0_0 a0_1 a1, fun r => (.one (.s .own pace r.1), [[.s .ro (.int .u8) r.2.1, .v (.int .i64 r.2.2)]])⟩ :=
  con_of (envOk (F55_tOk k) _ _ _ _) mixed Try.func55 rfl rfl (F55_ev k a0_0 a0_1 a1 some)
/-! 24: loop.example/netstack/spec.DrawSharedOk -/
def F24_t (k : Nat) : Tab
  | 56, [.one (.l (.s .ro (.int .u8) a0))] => some ⟨F56 k a0, fun r => (.one (.ptr (.cell 0) 2 0), [[.s .ro (.int .u8) r.1, .v (.int .i64 r.2)]])⟩
  | 55, [.one (.p [.s .ro (.int .u8) a0_0, .v (.int .i64 a0_1)]), .one (.l (.v (.int .i64 a1)))] => some ⟨F55 k a0_0 a0_1 a1, fun r => (.one (.s .own pace r.1), [[.s .ro (.int .u8) r.2.1, .v (.int .i64 r.2.2)]])⟩
  | _, _ => none
abbrev F24_E (k : Nat) : Env := env (F24_t k) noHint .own [] k
def F24 (k : Nat) (a0 : List (den (.int .u8))) : Option (List (den pace)) :=
  (F56 k a0).bind fun b1 =>
    (F55 k b1.1 b1.2 2).bind fun b2 =>
      some b2.1
theorem F24_st {β : Type} (k : Nat) (a0 : List (den (.int .u8))) (K : A × List (List Leaf) → Option β) : evalF (F24_E k) Try.f24 [.one (.l (.s .ro (.int .u8) a0))] K =
    (F56 k a0).bind fun b1 =>
      (F55 k b1.1 b1.2 2).bind fun b2 =>
        K (.one (.s .own pace b2.1), []) := by kernel_rfl
theorem F24_ev {β : Type} (k : Nat) (a0 : List (den (.int .u8))) (K : A × List (List Leaf) → Option β) : evalF (F24_E k) Try.f24 [.one (.l (.s .ro (.int .u8) a0))] K = (F24 k a0).bind fun r => K (.one (.s .own pace r), []) := by
  rw [F24_st, F24]
  simp only [bind_cond, Option.bind_assoc, Option.bind_some, Option.bind_none, Option.bind_fun_some]
theorem F24_tOk (k : Nat) : TabFn Try.prog (F24_t k) := by
  constructor <;> intro f xs cr h <;> unfold F24_t at h <;> split at h <;> first | (simp only [Option.some.injEq] at h; subst h) | (simp at h; done)
  · exact F56_con _ _
  · exact F55_con _ _ _ _
  · exact .of (by kernel_rfl)
  · exact .of (by kernel_rfl)
theorem F24_con (k : Nat) (a0 : List (den (.int .u8))) : Contract Try.prog 24 [.one (.l (.s .ro (.int .u8) a0))] ⟨F24 k a0, fun r => (.one (.s .own pace r), [])⟩ :=
  con_of (envOk (F24_tOk k) _ _ _ _) mixed Try.func24 rfl rfl (F24_ev k a0 some)
/-! 83: loop.example/netstack/impl.bytesOf -/
def F83_h : Nat → Hint
  | 0 => ⟨[(0, .plain), (5, .plain), (6, .plain)], [(8000, .plain)]⟩
  | _ => ⟨[], []⟩
abbrev F83_E (k : Nat) : Env := env noTab F83_h .own [] k
def F83_s0 (a0 : Int) (a1 : Int) (x0_0 : Int) (x6_0 : Int) (m8000_0 : List (den (.int .u8))) : St := ⟨[.one (.v (.int .i64 x0_0)), .one .d, .one .d, .one .d, .one .d, .one (.a (.cell 8000) 0 0 none), .one (.v (.int .i64 x6_0)), .one .d, .one .d, .one .d, .one .d, .one .d, .one .d, .one .d, .one .d, .one .d, .one .d, .one .d, .one .d, .one .d, .one .d, .one .d, .one .d], [(8000, ⟨.s .own (.int .u8) m8000_0, 0, 0⟩)]⟩
def F83_l0 (k : Nat) (a0 : Int) (a1 : Int) : Nat → Int → Int → List (den (.int .u8)) → Option (List (den (.int .u8)))
  | 0, _, _, _ => none
  | n + 1, x0_0, x6_0, m8000_0 =>
    cond (decide (x6_0 ≥ 0))
      (cond (decide (0 ≤ x6_0))
        (cond (decide (x6_0 < ((m8000_0.length : Nat) : Int)))
          (F83_l0 k a0 a1 n (x0_0.fdiv (2 ^ (8))) (IntKind.i64.wrap (x6_0 - 1)) (m8000_0.set x6_0.toNat (IntKind.u8.wrap (x0_0))))
          (none))
        (none))
      (some m8000_0)
theorem F83_l0_rd {β : Type} (k n : Nat) (a0 : Int) (a1 : Int) (x0_0 : Int) (x6_0 : Int) (m8000_0 : List (den (.int .u8))) (K : A × List (List Leaf) → Option β) :
    loopG (F83_E k) Try.f83 [1, 1, 0, 1, 0] 0 (kontAt (F83_E k) [1, 1, 0, 1, 0] (bodyOf Try.f83) 0 (endC (F83_E k) Try.f83 [.one (.l (.v (.int .i64 a0))), .one (.l (.v (.int .i64 a1)))] K)) (n + 1) (F83_s0 a0 a1 x0_0 x6_0 m8000_0) =
    cond (decide (x6_0 ≥ 0))
      (cond (decide (0 ≤ x6_0))
        (cond (decide (x6_0 < ((m8000_0.length : Nat) : Int)))
          (loopG (F83_E k) Try.f83 [1, 1, 0, 1, 0] 0 (kontAt (F83_E k) [1, 1, 0, 1, 0] (bodyOf Try.f83) 0 (endC (F83_E k) Try.f83 [.one (.l (.v (.int .i64 a0))), .one (.l (.v (.int .i64 a1)))] K)) n (F83_s0 a0 a1 (x0_0.fdiv (2 ^ (8))) (IntKind.i64.wrap (x6_0 - 1)) (m8000_0.set x6_0.toNat (IntKind.u8.wrap (x0_0)))))
          (none))
        (none))
      (K (.one (.s .own (.int .u8) m8000_0), [])) := by kernel_rfl
theorem F83_l0_lp {β : Type} (k : Nat) (a0 : Int) (a1 : Int) (K : A × List (List Leaf) → Option β) (n : Nat) : ∀ (x0_0 : Int) (x6_0 : Int) (m8000_0 : List (den (.int .u8))), loopG (F83_E k) Try.f83 [1, 1, 0, 1, 0] 0 (kontAt (F83_E k) [1, 1, 0, 1, 0] (bodyOf Try.f83) 0 (endC (F83_E k) Try.f83 [.one (.l (.v (.int .i64 a0))), .one (.l (.v (.int .i64 a1)))] K)) n (F83_s0 a0 a1 x0_0 x6_0 m8000_0) =
    (F83_l0 k a0 a1 n x0_0 x6_0 m8000_0).bind fun r => K (.one (.s .own (.int .u8) r), []) := by
  induction n with
  | zero => intros; rfl
  | succ n ih =>
    intros
    rw [F83_l0_rd, F83_l0]
    simp only [bind_cond, Option.bind_assoc, Option.bind_some, Option.bind_none, Option.bind_fun_some, ih]
def F83 (k : Nat) (a0 : Int) (a1 : Int) : Option (List (den (.int .u8))) :=
  cond ((decide (0 ≤ a1) && decide (a1 = a1) && decide (a1 * (1 : Nat) ≤ 140737488355328)))
    (F83_l0 k a0 a1 k a0 (IntKind.i64.wrap (a1 - 1)) (List.replicate a1.toNat (dflt (.int .u8))))
    (none)
theorem F83_st {β : Type} (k : Nat) (a0 : Int) (a1 : Int) (K : A × List (List Leaf) → Option β) : evalF (F83_E k) Try.f83 [.one (.l (.v (.int .i64 a0))), .one (.l (.v (.int .i64 a1)))] K =
    cond ((decide (0 ≤ a1) && decide (a1 = a1) && decide (a1 * (1 : Nat) ≤ 140737488355328)))
      (loopG (F83_E k) Try.f83 [1, 1, 0, 1, 0] 0 (kontAt (F83_E k) [1, 1, 0, 1, 0] (bodyOf Try.f83) 0 (endC (F83_E k) Try.f83 [.one (.l (.v (.int .i64 a0))), .one (.l (.v (.int .i64 a1)))] K)) k (F83_s0 a0 a1 a0 (IntKind.i64.wrap (a1 - 1)) (List.replicate a1.toNat (dflt (.int .u8)))))
      (none) := by kernel_rfl
theorem F83_ev {β : Type} (k : Nat) (a0 : Int) (a1 : Int) (K : A × List (List Leaf) → Option β) : evalF (F83_E k) Try.f83 [.one (.l (.v (.int .i64 a0))), .one (.l (.v (.int .i64 a1)))] K = (F83 k a0 a1).bind fun r => K (.one (.s .own (.int .u8) r), []) := by
  rw [F83_st, F83]
  simp only [bind_cond, Option.bind_assoc, Option.bind_some, Option.bind_none, Option.bind_fun_some, F83_l0_lp]
theorem F83_con (k : Nat) (a0 : Int) (a1 : Int) : Contract Try.prog 83 [.one (.l (.v (.int .i64 a0))), .one (.l (.v (.int .i64 a1)))] ⟨F83 k a0 a1, fun r => (.one (.s .own (.int .u8) r), [])⟩ :=
  con_of (envOk .none _ _ _ _) mixed Try.func83 rfl rfl (F83_ev k a0 a1 some)
/-! 57: loop.example/netstack/impl.BytesOf -/
def F57_t (k : Nat) : Tab
  | 49, [.one (.l (.v (.int .i64 a0))), .one (.l (.v (.int .i64 a1))), .one (.l (.v (.int .i64 a2)))] => some ⟨F49 k a0 a1 a2, fun r => (.one (.v (.bool r)), [])⟩
  | 83, [.one (.l (.v (.int .i64 a0))), .one (.l (.v (.int .i64 a1)))] => some ⟨F83 k a0 a1, fun r => (.one (.s .own (.int .u8) r), [])⟩
  | _, _ => none
abbrev F57_E (k : Nat) : Env := env (F57_t k) noHint .own [] k
def F57 (k : Nat) (a0 : Int) (a1 : Int) : Option (List (den (.int .u8))) :=
  (F49 k a1 1 4).bind fun b1 =>
    cond ((!b1))
      (some [])
      (cond (decide ((IntKind.i64.wrap (8 * a1)) < 0))
        (none)
        ((F49 k a0 0 (IntKind.i64.wrap ((IntKind.i64.wrap (1 * 2 ^ (min (IntKind.i64.wrap (8 * a1)).toNat 64))) - 1))).bind fun b2 =>
          cond ((!b2))
            (some [])
            ((F83 k a0 a1).bind fun b3 =>
              some b3)))
theorem F57_st {β : Type} (k : Nat) (a0 : Int) (a1 : Int) (K : A × List (List Leaf) → Option β) : evalF (F57_E k) Try.f57 [.one (.l (.v (.int .i64 a0))), .one (.l (.v (.int .i64 a1)))] K =
    (F49 k a1 1 4).bind fun b1 =>
      cond ((!b1))
        (K (.one (.s .own (.int .u8) []), []))
        (cond (decide ((IntKind.i64.wrap (8 * a1)) < 0))
          (none)
          ((F49 k a0 0 (IntKind.i64.wrap ((IntKind.i64.wrap (1 * 2 ^ (min (IntKind.i64.wrap (8 * a1)).toNat 64))) - 1))).bind fun b2 =>
            cond ((!b2))
              (K (.one (.s .own (.int .u8) []), []))
              ((F83 k a0 a1).bind fun b3 =>
                K (.one (.s .own (.int .u8) b3), [])))) := by kernel_rfl
theorem F57_ev {β : Type} (k : Nat) (a0 : Int) (a1 : Int) (K : A × List (List Leaf) → Option β) : evalF (F57_E k) Try.f57 [.one (.l (.v (.int .i64 a0))), .one (.l (.v (.int .i64 a1)))] K = (F57 k a0 a1).bind fun r => K (.one (.s .own (.int .u8) r), []) := by
  rw [F57_st, F57]
  simp only [bind_cond, Option.bind_assoc, Option.bind_some, Option.bind_none, Option.bind_fun_some]
theorem F57_tOk (k : Nat) : TabFn Try.prog (F57_t k) := by
  constructor <;> intro f xs cr h <;> unfold F57_t at h <;> split at h <;> first | (simp only [Option.some.injEq] at h; subst h) | (simp at h; done)
  · exact F49_con _ _ _ _
  · exact F83_con _ _ _
  · exact .of (by kernel_rfl)
  · exact .of (by kernel_rfl)
theorem F57_con (k : Nat) (a0 : Int) (a1 : Int) : Contract Try.prog 57 [.one (.l (.v (.int .i64 a0))), .one (.l (.v (.int .i64 a1)))] ⟨F57 k a0 a1, fun r => (.one (.s .own (.int .u8) r), [])⟩ :=
  con_of (envOk (F57_tOk k) _ _ _ _) mixed Try.func57 rfl rfl (F57_ev k a0 a1 some)
/-! 25: loop.example/netstack/laws.alive -/
def F25_t (k : Nat) : Tab
  | 57, [.one (.l (.v (.int .i64 a0))), .one (.l (.v (.int .i64 a1)))] => some ⟨F57 k a0 a1, fun r => (.one (.s .own (.int .u8) r), [])⟩
  | _, _ => none
abbrev F25_E (k : Nat) : Env := env (F25_t k) noHint .own [] k
def F25 (k : Nat) : Option (Bool) :=
  (F57 k 5 1).bind fun b1 =>
    cond ((((b1.length : Nat) : Int) == 1))
      ((F57 k 256 1).bind fun b2 =>
        some (((b2.length : Nat) : Int) == 0))
      (some false)
theorem F25_st {β : Type} (k : Nat) (K : A × List (List Leaf) → Option β) : evalF (F25_E k) Try.f25 [] K =
    (F57 k 5 1).bind fun b1 =>
      cond ((((b1.length : Nat) : Int) == 1))
        ((F57 k 256 1).bind fun b2 =>
          K (.one (.v (.bool (((b2.length : Nat) : Int) == 0))), []))
        (K (.one (.v (.bool false)), [])) := by kernel_rfl
theorem F25_ev {β : Type} (k : Nat) (K : A × List (List Leaf) → Option β) : evalF (F25_E k) Try.f25 [] K = (F25 k).bind fun r => K (.one (.v (.bool r)), []) := by
  rw [F25_st, F25]
  simp only [bind_cond, Option.bind_assoc, Option.bind_some, Option.bind_none, Option.bind_fun_some]
theorem F25_tOk (k : Nat) : TabFn Try.prog (F25_t k) := by
  constructor <;> intro f xs cr h <;> unfold F25_t at h <;> split at h <;> first | (simp only [Option.some.injEq] at h; subst h) | (simp at h; done)
  · exact F57_con _ _ _
  · exact .of (by kernel_rfl)
theorem F25_con (k : Nat) : Contract Try.prog 25 [] ⟨F25 k, fun r => (.one (.v (.bool r)), [])⟩ :=
  con_of (envOk (F25_tOk k) _ _ _ _) mixed Try.func25 rfl rfl (F25_ev k some)
/-! 6: loop.example/netstack/laws.FnSharedOk -/
def F6_t (k : Nat) : Tab
  | 24, [.one (.l (.s .ro (.int .u8) a0))] => some ⟨F24 k a0, fun r => (.one (.s .own pace r), [])⟩
  | 18, [.one (.l (.s .ro (.pair (.int .i64) (.pair (.int .i64) (.int .i64))) a0))] => some ⟨F18 k a0, fun r => (.one (.v (.bool r)), [])⟩
  | 16, [.one (.l (.s .ro (.pair (.int .i64) (.pair (.int .i64) (.int .i64))) a0))] => some ⟨F16 k a0, fun r => (.one (.v (.bool r)), [])⟩
  | 25, [] => some ⟨F25 k, fun r => (.one (.v (.bool r)), [])⟩
  | _, _ => none
abbrev F6_E (k : Nat) : Env := env (F6_t k) noHint .own [] k
def F6 (k : Nat) (a0 : List (den (.int .u8))) : Option (Bool) :=
  cond (decide (((a0.length : Nat) : Int) > 1048576))
    (some true)
    ((F24 k a0).bind fun b1 =>
      (F18 k b1).bind fun b2 =>
        (F16 k b1).bind fun b3 =>
          cond ((!(b2 == b3)))
            (some false)
            (cond ((!b2))
              ((F18 k []).bind fun b4 =>
                cond ((!b4))
                  ((F18 k [(1, 2, 0)]).bind fun b5 =>
                    cond (b5)
                      ((F25 k).bind fun b6 =>
                        some b6)
                      (some false))
                  (some false))
              (cond (decide (0 < ((b1.length : Nat) : Int)))
                ((F18 k [((atI b1 0).1, ((atI b1 0).2))]).bind fun b7 =>
                  cond (b7)
                    ((F18 k []).bind fun b8 =>
                      cond ((!b8))
                        ((F18 k [(1, 2, 0)]).bind fun b9 =>
                          cond (b9)
                            ((F25 k).bind fun b10 =>
                              some b10)
                            (some false))
                        (some false))
                    (some false))
                (none))))
theorem F6_st {β : Type} (k : Nat) (a0 : List (den (.int .u8))) (K : A × List (List Leaf) → Option β) : evalF (F6_E k) Try.f6 [.one (.l (.s .ro (.int .u8) a0))] K =
    cond (decide (((a0.length : Nat) : Int) > 1048576))
      (K (.one (.v (.bool true)), []))
      ((F24 k a0).bind fun b1 =>
        (F18 k b1).bind fun b2 =>
          (F16 k b1).bind fun b3 =>
            cond ((!(b2 == b3)))
              (K (.one (.v (.bool false)), []))
              (cond ((!b2))
                ((F18 k []).bind fun b4 =>
                  cond ((!b4))
                    ((F18 k [(1, 2, 0)]).bind fun b5 =>
                      cond (b5)
                        ((F25 k).bind fun b6 =>
                          K (.one (.v (.bool b6)), []))
                        (K (.one (.v (.bool false)), [])))
                    (K (.one (.v (.bool false)), [])))
                (cond (decide (0 < ((b1.length : Nat) : Int)))
                  ((F18 k [((atI b1 0).1, ((atI b1 0).2))]).bind fun b7 =>
                    cond (b7)
                      ((F18 k []).bind fun b8 =>
                        cond ((!b8))
                          ((F18 k [(1, 2, 0)]).bind fun b9 =>
                            cond (b9)
                              ((F25 k).bind fun b10 =>
                                K (.one (.v (.bool b10)), []))
                              (K (.one (.v (.bool false)), [])))
                          (K (.one (.v (.bool false)), [])))
                      (K (.one (.v (.bool false)), [])))
                  (none)))) := by kernel_rfl
theorem F6_ev {β : Type} (k : Nat) (a0 : List (den (.int .u8))) (K : A × List (List Leaf) → Option β) : evalF (F6_E k) Try.f6 [.one (.l (.s .ro (.int .u8) a0))] K = (F6 k a0).bind fun r => K (.one (.v (.bool r)), []) := by
  rw [F6_st, F6]
  simp only [bind_cond, Option.bind_assoc, Option.bind_some, Option.bind_none, Option.bind_fun_some]
theorem F6_tOk (k : Nat) : TabFn Try.prog (F6_t k) := by
  constructor <;> intro f xs cr h <;> unfold F6_t at h <;> split at h <;> first | (simp only [Option.some.injEq] at h; subst h) | (simp at h; done)
  · exact F24_con _ _
  · exact F18_con _ _
  · exact F16_con _ _
  · exact F25_con _
  · exact .of (by kernel_rfl)
  · exact .of (by kernel_rfl)
  · exact .of (by kernel_rfl)
  · exact .of (by kernel_rfl)
theorem F6_con (k : Nat) (a0 : List (den (.int .u8))) : Contract Try.prog 6 [.one (.l (.s .ro (.int .u8) a0))] ⟨F6 k a0, fun r => (.one (.v (.bool r)), [])⟩ :=
  con_of (envOk (F6_tOk k) _ _ _ _) mixed Try.func6 rfl rfl (F6_ev k a0 some)
/-! 26: loop.example/netstack/spec.DrawSharedFar -/
def F26_t (k : Nat) : Tab
  | 56, [.one (.l (.s .ro (.int .u8) a0))] => some ⟨F56 k a0, fun r => (.one (.ptr (.cell 0) 2 0), [[.s .ro (.int .u8) r.1, .v (.int .i64 r.2)]])⟩
  | 55, [.one (.p [.s .ro (.int .u8) a0_0, .v (.int .i64 a0_1)]), .one (.l (.v (.int .i64 a1)))] => some ⟨F55 k a0_0 a0_1 a1, fun r => (.one (.s .own pace r.1), [[.s .ro (.int .u8) r.2.1, .v (.int .i64 r.2.2)]])⟩
  | _, _ => none
abbrev F26_E (k : Nat) : Env := env (F26_t k) noHint .own [] k
def F26 (k : Nat) (a0 : List (den (.int .u8))) : Option (List (den pace)) :=
  (F56 k a0).bind fun b1 =>
    (F55 k b1.1 b1.2 9).bind fun b2 =>
      some b2.1
theorem F26_st {β : Type} (k : Nat) (a0 : List (den (.int .u8))) (K : A × List (List Leaf) → Option β) : evalF (F26_E k) Try.f26 [.one (.l (.s .ro (.int .u8) a0))] K =
    (F56 k a0).bind fun b1 =>
      (F55 k b1.1 b1.2 9).bind fun b2 =>
        K (.one (.s .own pace b2.1), []) := by kernel_rfl
theorem F26_ev {β : Type} (k : Nat) (a0 : List (den (.int .u8))) (K : A × List (List Leaf) → Option β) : evalF (F26_E k) Try.f26 [.one (.l (.s .ro (.int .u8) a0))] K = (F26 k a0).bind fun r => K (.one (.s .own pace r), []) := by
  rw [F26_st, F26]
  simp only [bind_cond, Option.bind_assoc, Option.bind_some, Option.bind_none, Option.bind_fun_some]
theorem F26_tOk (k : Nat) : TabFn Try.prog (F26_t k) := by
  constructor <;> intro f xs cr h <;> unfold F26_t at h <;> split at h <;> first | (simp only [Option.some.injEq] at h; subst h) | (simp at h; done)
  · exact F56_con _ _
  · exact F55_con _ _ _ _
  · exact .of (by kernel_rfl)
  · exact .of (by kernel_rfl)
theorem F26_con (k : Nat) (a0 : List (den (.int .u8))) : Contract Try.prog 26 [.one (.l (.s .ro (.int .u8) a0))] ⟨F26 k a0, fun r => (.one (.s .own pace r), [])⟩ :=
  con_of (envOk (F26_tOk k) _ _ _ _) mixed Try.func26 rfl rfl (F26_ev k a0 some)
/-! 7: loop.example/netstack/laws.FnSharedFar -/
def F7_t (k : Nat) : Tab
  | 26, [.one (.l (.s .ro (.int .u8) a0))] => some ⟨F26 k a0, fun r => (.one (.s .own pace r), [])⟩
  | 21, [.one (.l (.s .ro (.pair (.int .i64) (.pair (.int .i64) (.int .i64))) a0))] => some ⟨F21 k a0, fun r => (.one (.v (.int .i64 r)), [])⟩
  | 20, [.one (.l (.s .ro (.pair (.int .i64) (.pair (.int .i64) (.int .i64))) a0))] => some ⟨F20 k a0, fun r => (.one (.v (.int .i64 r)), [])⟩
  | 18, [.one (.l (.s .ro (.pair (.int .i64) (.pair (.int .i64) (.int .i64))) a0))] => some ⟨F18 k a0, fun r => (.one (.v (.bool r)), [])⟩
  | 25, [] => some ⟨F25 k, fun r => (.one (.v (.bool r)), [])⟩
  | _, _ => none
abbrev F7_E (k : Nat) : Env := env (F7_t k) noHint .own [] k
def F7 (k : Nat) (a0 : List (den (.int .u8))) : Option (Bool) :=
  cond (decide (((a0.length : Nat) : Int) > 1048576))
    (some true)
    ((F26 k a0).bind fun b1 =>
      (F21 k b1).bind fun b2 =>
        (F20 k b1).bind fun b3 =>
          cond ((b2 != b3))
            (some false)
            (cond ((b2 == (-1)))
              ((F18 k b1).bind fun b4 =>
                cond ((!b4))
                  ((F25 k).bind fun b5 =>
                    some b5)
                  (cond (decide (b2 ≥ 0))
                    (cond (decide (b2 < 64))
                      (cond (decide (((b1.length : Nat) : Int) > 1))
                        ((F25 k).bind fun b6 =>
                          some b6)
                        (cond ((b2 == 0))
                          ((F25 k).bind fun b7 =>
                            some b7)
                          (some false)))
                      (some false))
                    (some false)))
              (cond (decide (b2 ≥ 0))
                (cond (decide (b2 < 64))
                  (cond (decide (((b1.length : Nat) : Int) > 1))
                    ((F25 k).bind fun b8 =>
                      some b8)
                    (cond ((b2 == 0))
                      ((F25 k).bind fun b9 =>
                        some b9)
                      (some false)))
                  (some false))
                (some false))))
theorem F7_st {β : Type} (k : Nat) (a0 : List (den (.int .u8))) (K : A × List (List Leaf) → Option β) : evalF (F7_E k) Try.f7 [.one (.l (.s .ro (.int .u8) a0))] K =
    cond (decide (((a0.length : Nat) : Int) > 1048576))
      (K (.one (.v (.bool true)), []))
      ((F26 k a0).bind fun b1 =>
        (F21 k b1).bind fun b2 =>
          (F20 k b1).bind fun b3 =>
            cond ((b2 != b3))
              (K (.one (.v (.bool false)), []))
              (cond ((b2 == (-1)))
                ((F18 k b1).bind fun b4 =>
                  cond ((!b4))
                    ((F25 k).bind fun b5 =>
                      K (.one (.v (.bool b5)), []))
                    (cond (decide (b2 ≥ 0))
                      (cond (decide (b2 < 64))
                        (cond (decide (((b1.length : Nat) : Int) > 1))
                          ((F25 k).bind fun b6 =>
                            K (.one (.v (.bool b6)), []))
                          (cond ((b2 == 0))
                            ((F25 k).bind fun b7 =>
                              K (.one (.v (.bool b7)), []))
                            (K (.one (.v (.bool false)), []))))
                        (K (.one (.v (.bool false)), [])))
                      (K (.one (.v (.bool false)), []))))
                (cond (decide (b2 ≥ 0))
                  (cond (decide (b2 < 64))
                    (cond (decide (((b1.length : Nat) : Int) > 1))
                      ((F25 k).bind fun b8 =>
                        K (.one (.v (.bool b8)), []))
                      (cond ((b2 == 0))
                        ((F25 k).bind fun b9 =>
                          K (.one (.v (.bool b9)), []))
                        (K (.one (.v (.bool false)), []))))
                    (K (.one (.v (.bool false)), [])))
                  (K (.one (.v (.bool false)), []))))) := by kernel_rfl
theorem F7_ev {β : Type} (k : Nat) (a0 : List (den (.int .u8))) (K : A × List (List Leaf) → Option β) : evalF (F7_E k) Try.f7 [.one (.l (.s .ro (.int .u8) a0))] K = (F7 k a0).bind fun r => K (.one (.v (.bool r)), []) := by
  rw [F7_st, F7]
  simp only [bind_cond, Option.bind_assoc, Option.bind_some, Option.bind_none, Option.bind_fun_some]
theorem F7_tOk (k : Nat) : TabFn Try.prog (F7_t k) := by
  constructor <;> intro f xs cr h <;> unfold F7_t at h <;> split at h <;> first | (simp only [Option.some.injEq] at h; subst h) | (simp at h; done)
  · exact F26_con _ _
  · exact F21_con _ _
  · exact F20_con _ _
  · exact F18_con _ _
  · exact F25_con _
  · exact .of (by kernel_rfl)
  · exact .of (by kernel_rfl)
  · exact .of (by kernel_rfl)
  · exact .of (by kernel_rfl)
  · exact .of (by kernel_rfl)
theorem F7_con (k : Nat) (a0 : List (den (.int .u8))) : Contract Try.prog 7 [.one (.l (.s .ro (.int .u8) a0))] ⟨F7 k a0, fun r => (.one (.v (.bool r)), [])⟩ :=
  con_of (envOk (F7_tOk k) _ _ _ _) mixed Try.func7 rfl rfl (F7_ev k a0 some)
/-! 27: loop.example/netstack/spec.DrawSharedAll -/
def F27_t (k : Nat) : Tab
  | 56, [.one (.l (.s .ro (.int .u8) a0))] => some ⟨F56 k a0, fun r => (.one (.ptr (.cell 0) 2 0), [[.s .ro (.int .u8) r.1, .v (.int .i64 r.2)]])⟩
  | 55, [.one (.p [.s .ro (.int .u8) a0_0, .v (.int .i64 a0_1)]), .one (.l (.v (.int .i64 a1)))] => some ⟨F55 k a0_0 a0_1 a1, fun r => (.one (.s .own pace r.1), [[.s .ro (.int .u8) r.2.1, .v (.int .i64 r.2.2)]])⟩
  | _, _ => none
abbrev F27_E (k : Nat) : Env := env (F27_t k) noHint .own [] k
def F27 (k : Nat) (a0 : List (den (.int .u8))) : Option (List (den pace)) :=
  (F56 k a0).bind fun b1 =>
    (F55 k b1.1 b1.2 9).bind fun b2 =>
      some b2.1
theorem F27_st {β : Type} (k : Nat) (a0 : List (den (.int .u8))) (K : A × List (List Leaf) → Option β) : evalF (F27_E k) Try.f27 [.one (.l (.s .ro (.int .u8) a0))] K =
    (F56 k a0).bind fun b1 =>
      (F55 k b1.1 b1.2 9).bind fun b2 =>
        K (.one (.s .own pace b2.1), []) := by kernel_rfl
theorem F27_ev {β : Type} (k : Nat) (a0 : List (den (.int .u8))) (K : A × List (List Leaf) → Option β) : evalF (F27_E k) Try.f27 [.one (.l (.s .ro (.int .u8) a0))] K = (F27 k a0).bind fun r => K (.one (.s .own pace r), []) := by
  rw [F27_st, F27]
  simp only [bind_cond, Option.bind_assoc, Option.bind_some, Option.bind_none, Option.bind_fun_some]
theorem F27_tOk (k : Nat) : TabFn Try.prog (F27_t k) := by
  constructor <;> intro f xs cr h <;> unfold F27_t at h <;> split at h <;> first | (simp only [Option.some.injEq] at h; subst h) | (simp at h; done)
  · exact F56_con _ _
  · exact F55_con _ _ _ _
  · exact .of (by kernel_rfl)
  · exact .of (by kernel_rfl)
theorem F27_con (k : Nat) (a0 : List (den (.int .u8))) : Contract Try.prog 27 [.one (.l (.s .ro (.int .u8) a0))] ⟨F27 k a0, fun r => (.one (.s .own pace r), [])⟩ :=
  con_of (envOk (F27_tOk k) _ _ _ _) mixed Try.func27 rfl rfl (F27_ev k a0 some)
/-! 8: loop.example/netstack/laws.FnSharedAll -/
def F8_t (k : Nat) : Tab
  | 27, [.one (.l (.s .ro (.int .u8) a0))] => some ⟨F27 k a0, fun r => (.one (.s .own pace r), [])⟩
  | 23, [.one (.l (.s .ro (.pair (.int .i64) (.pair (.int .i64) (.int .i64))) a0))] => some ⟨F23 k a0, fun r => (.one (.v (.int .i64 r)), [])⟩
  | 22, [.one (.l (.s .ro (.pair (.int .i64) (.pair (.int .i64) (.int .i64))) a0))] => some ⟨F22 k a0, fun r => (.one (.v (.int .i64 r)), [])⟩
  | 18, [.one (.l (.s .ro (.pair (.int .i64) (.pair (.int .i64) (.int .i64))) a0))] => some ⟨F18 k a0, fun r => (.one (.v (.bool r)), [])⟩
  | 25, [] => some ⟨F25 k, fun r => (.one (.v (.bool r)), [])⟩
  | _, _ => none
abbrev F8_E (k : Nat) : Env := env (F8_t k) noHint .own [] k
def F8 (k : Nat) (a0 : List (den (.int .u8))) : Option (Bool) :=
  cond (decide (((a0.length : Nat) : Int) > 1048576))
    (some true)
    ((F27 k a0).bind fun b1 =>
      (F23 k b1).bind fun b2 =>
        (F22 k b1).bind fun b3 =>
          cond ((b2 != b3))
            (some false)
            (cond ((b2 == (-1)))
              ((F18 k b1).bind fun b4 =>
                cond ((!b4))
                  ((F25 k).bind fun b5 =>
                    some b5)
                  (cond (decide (b2 ≥ ((b1.length : Nat) : Int)))
                    (cond (decide (b2 ≤ (IntKind.i64.wrap (64 * ((b1.length : Nat) : Int)))))
                      ((F25 k).bind fun b6 =>
                        some b6)
                      (some false))
                    (some false)))
              (cond (decide (b2 ≥ ((b1.length : Nat) : Int)))
                (cond (decide (b2 ≤ (IntKind.i64.wrap (64 * ((b1.length : Nat) : Int)))))
                  ((F25 k).bind fun b7 =>
                    some b7)
                  (some false))
                (some false))))
theorem F8_st {β : Type} (k : Nat) (a0 : List (den (.int .u8))) (K : A × List (List Leaf) → Option β) : evalF (F8_E k) Try.f8 [.one (.l (.s .ro (.int .u8) a0))] K =
    cond (decide (((a0.length : Nat) : Int) > 1048576))
      (K (.one (.v (.bool true)), []))
      ((F27 k a0).bind fun b1 =>
        (F23 k b1).bind fun b2 =>
          (F22 k b1).bind fun b3 =>
            cond ((b2 != b3))
              (K (.one (.v (.bool false)), []))
              (cond ((b2 == (-1)))
                ((F18 k b1).bind fun b4 =>
                  cond ((!b4))
                    ((F25 k).bind fun b5 =>
                      K (.one (.v (.bool b5)), []))
                    (cond (decide (b2 ≥ ((b1.length : Nat) : Int)))
                      (cond (decide (b2 ≤ (IntKind.i64.wrap (64 * ((b1.length : Nat) : Int)))))
                        ((F25 k).bind fun b6 =>
                          K (.one (.v (.bool b6)), []))
                        (K (.one (.v (.bool false)), [])))
                      (K (.one (.v (.bool false)), []))))
                (cond (decide (b2 ≥ ((b1.length : Nat) : Int)))
                  (cond (decide (b2 ≤ (IntKind.i64.wrap (64 * ((b1.length : Nat) : Int)))))
                    ((F25 k).bind fun b7 =>
                      K (.one (.v (.bool b7)), []))
                    (K (.one (.v (.bool false)), [])))
                  (K (.one (.v (.bool false)), []))))) := by kernel_rfl
theorem F8_ev {β : Type} (k : Nat) (a0 : List (den (.int .u8))) (K : A × List (List Leaf) → Option β) : evalF (F8_E k) Try.f8 [.one (.l (.s .ro (.int .u8) a0))] K = (F8 k a0).bind fun r => K (.one (.v (.bool r)), []) := by
  rw [F8_st, F8]
  simp only [bind_cond, Option.bind_assoc, Option.bind_some, Option.bind_none, Option.bind_fun_some]
theorem F8_tOk (k : Nat) : TabFn Try.prog (F8_t k) := by
  constructor <;> intro f xs cr h <;> unfold F8_t at h <;> split at h <;> first | (simp only [Option.some.injEq] at h; subst h) | (simp at h; done)
  · exact F27_con _ _
  · exact F23_con _ _
  · exact F22_con _ _
  · exact F18_con _ _
  · exact F25_con _
  · exact .of (by kernel_rfl)
  · exact .of (by kernel_rfl)
  · exact .of (by kernel_rfl)
  · exact .of (by kernel_rfl)
  · exact .of (by kernel_rfl)
theorem F8_con (k : Nat) (a0 : List (den (.int .u8))) : Contract Try.prog 8 [.one (.l (.s .ro (.int .u8) a0))] ⟨F8 k a0, fun r => (.one (.v (.bool r)), [])⟩ :=
  con_of (envOk (F8_tOk k) _ _ _ _) mixed Try.func8 rfl rfl (F8_ev k a0 some)
/-! 28: loop.example/netstack/spec.DrawSlow -/
def F28_h : Nat → Hint
  | 0 => ⟨[(4, .plain), (5, .own .own pace []), (6, .plain)], [(8000, .plain), (8001, .plain)]⟩
  | _ => ⟨[], []⟩
def F28_t (k : Nat) : Tab
  | 56, [.one (.l (.s .ro (.int .u8) a0))] => some ⟨F56 k a0, fun r => (.one (.ptr (.cell 0) 2 0), [[.s .ro (.int .u8) r.1, .v (.int .i64 r.2)]])⟩
  | 58, [.one (.p [.s .ro (.int .u8) a0_0, .v (.int .i64 a0_1)]), .one (.l (.v (.int .i64 a1)))] => some ⟨F58 k a0_0 a0_1 a1, fun r => (.one (.v (.int .i64 r.1)), [[.s .ro (.int .u8) r.2.1, .v (.int .i64 r.2.2)]])⟩
  | _, _ => none
abbrev F28_E (k : Nat) : Env := env (F28_t k) F28_h .own [] k
def F28_s0 (a0 : List (den (.int .u8))) (x6_0 : Int) (m8000_0 : List (den (.int .u8))) (m8001_0 : Int) (m5900_0 : List (den pace)) : St := ⟨[.one .d, .one .d, .one .d, .one .d, .one (.ptr (.cell 8000) 2 0), .one (.a (.cell 5900) 0 0 none), .one (.v (.int .i64 x6_0)), .one .d, .one .d, .one .d, .one .d, .one .d, .one .d, .one .d, .one .d, .one .d, .one .d, .one .d, .one .d, .one .d, .one .d, .one .d, .one .d, .one .d, .one .d, .one .d, .one .d, .one .d, .one .d, .one .d, .one .d, .one .d, .one .d, .one .d], [(8000, ⟨.s .ro (.int .u8) m8000_0, 0, 0⟩), (8001, ⟨.v (.int .i64 m8001_0), 0, 0⟩), (5900, ⟨.s .own pace m5900_0, 0, 0⟩)]⟩
def F28_l0 (k : Nat) (a0 : List (den (.int .u8))) : Nat → Int → List (den (.int .u8)) → Int → List (den pace) → Option (List (den pace) × Int)
  | 0, _, _, _, _ => none
  | n + 1, x6_0, m8000_0, m8001_0, m5900_0 =>
    cond (decide (x6_0 > 0))
      ((F58 k m8000_0 m8001_0 40).bind fun b3 =>
        cond (decide ((m5900_0.length + [(IntKind.i64.wrap (4 + b3.1), 2, 0)].length) * 24 ≤ 140737488355328))
          (F28_l0 k a0 n (IntKind.i64.wrap (x6_0 - 1)) b3.2.1 b3.2.2 (m5900_0 ++ [(IntKind.i64.wrap (4 + b3.1), 2, 0)]))
          (none))
      ((F58 k m8000_0 m8001_0 (IntKind.i64.wrap (20 * ((m5900_0.length : Nat) : Int)))).bind fun b4 =>
        some (m5900_0, IntKind.i64.wrap ((IntKind.i64.wrap (8 * ((m5900_0.length : Nat) : Int))) + b4.1)))
theorem F28_l0_rd {β : Type} (k n : Nat) (a0 : List (den (.int .u8))) (x6_0 : Int) (m8000_0 : List (den (.int .u8))) (m8001_0 : Int) (m5900_0 : List (den pace)) (K : A × List (List Leaf) → Option β) :
    loopG (F28_E k) Try.f28 [1, 1, 1, 0, 1, 0] 0 (kontAt (F28_E k) [1, 1, 1, 0, 1, 0] (bodyOf Try.f28) 0 (endC (F28_E k) Try.f28 [.one (.l (.s .ro (.int .u8) a0))] K)) (n + 1) (F28_s0 a0 x6_0 m8000_0 m8001_0 m5900_0) =
    cond (decide (x6_0 > 0))
      ((F58 k m8000_0 m8001_0 40).bind fun b3 =>
        cond (decide ((m5900_0.length + [(IntKind.i64.wrap (4 + b3.1), 2, 0)].length) * 24 ≤ 140737488355328))
          (loopG (F28_E k) Try.f28 [1, 1, 1, 0, 1, 0] 0 (kontAt (F28_E k) [1, 1, 1, 0, 1, 0] (bodyOf Try.f28) 0 (endC (F28_E k) Try.f28 [.one (.l (.s .ro (.int .u8) a0))] K)) n (F28_s0 a0 (IntKind.i64.wrap (x6_0 - 1)) b3.2.1 b3.2.2 (m5900_0 ++ [(IntKind.i64.wrap (4 + b3.1), 2, 0)])))
          (none))
      ((F58 k m8000_0 m8001_0 (IntKind.i64.wrap (20 * ((m5900_0.length : Nat) : Int)))).bind fun b4 =>
        K (.tup [(false, [.s .own pace m5900_0]), (false, [.v (.int .i64 (IntKind.i64.wrap ((IntKind.i64.wrap (8 * ((m5900_0.length : Nat) : Int))) + b4.1)))])], [])) := by kernel_rfl
theorem F28_l0_lp {β : Type} (k : Nat) (a0 : List (den (.int .u8))) (K : A × List (List Leaf) → Option β) (n : Nat) : ∀ (x6_0 : Int) (m8000_0 : List (den (.int .u8))) (m8001_0 : Int) (m5900_0 : List (den pace)), loopG (F28_E k) Try.f28 [1, 1, 1, 0, 1, 0] 0 (kontAt (F28_E k) [1, 1, 1, 0, 1, 0] (bodyOf Try.f28) 0 (endC (F28_E k) Try.f28 [.one (.l (.s .ro (.int .u8) a0))] K)) n (F28_s0 a0 x6_0 m8000_0 m8001_0 m5900_0) =
    (F28_l0 k a0 n x6_0 m8000_0 m8001_0 m5900_0).bind fun r => K (.tup [(false, [.s .own pace r.1]), (false, [.v (.int .i64 r.2)])], []) := by
  induction n with
  | zero => intros; rfl
  | succ n ih =>
    intros
    rw [F28_l0_rd, F28_l0]
    simp only [bind_cond, Option.bind_assoc, Option.bind_some, Option.bind_none, Option.bind_fun_some, ih]
def F28 (k : Nat) (a0 : List (den (.int .u8))) : Option (List (den pace) × Int) :=
  (F56 k a0).bind fun b1 =>
    (F58 k b1.1 b1.2 4).bind fun b2 =>
      F28_l0 k a0 k (IntKind.i64.wrap (2 + b2.1)) b2.2.1 b2.2.2 []
theorem F28_st {β : Type} (k : Nat) (a0 : List (den (.int .u8))) (K : A × List (List Leaf) → Option β) : evalF (F28_E k) Try.f28 [.one (.l (.s .ro (.int .u8) a0))] K =
    (F56 k a0).bind fun b1 =>
      (F58 k b1.1 b1.2 4).bind fun b2 =>
        loopG (F28_E k) Try.f28 [1, 1, 1, 0, 1, 0] 0 (kontAt (F28_E k) [1, 1, 1, 0, 1, 0] (bodyOf Try.f28) 0 (endC (F28_E k) Try.f28 [.one (.l (.s .ro (.int .u8) a0))] K)) k (F28_s0 a0 (IntKind.i64.wrap (2 + b2.1)) b2.2.1 b2.2.2 []) := by kernel_rfl
theorem F28_ev {β : Type} (k : Nat) (a0 : List (den (.int .u8))) (K : A × List (List Leaf) → Option β) : evalF (F28_E k) Try.f28 [.one (.l (.s .ro (.int .u8) a0))] K = (F28 k a0).bind fun r => K (.tup [(false, [.s .own pace r.1]), (false, [.v (.int .i64 r.2)])], []) := by
  rw [F28_st, F28]
  simp only [bind_cond, Option.bind_assoc, Option.bind_some, Option.bind_none, Option.bind_fun_some, F28_l0_lp]
theorem F28_tOk (k : Nat) : TabFn Try.prog (F28_t k) := by
  constructor <;> intro f xs cr h <;> unfold F28_t at h <;> split at h <;> first | (simp only [Option.some.injEq] at h; subst h) | (simp at h; done)
  · exact F56_con _ _
  · exact F58_con _ _ _ _
  · exact .of (by kernel_rfl)
  · exact .of (by kernel_rfl)
theorem F28_con (k : Nat) (a0 : List (den (.int .u8))) : Contract Try.prog 28 [.one (.l (.s .ro (.int .u8) a0))] ⟨F28 k a0, fun r => (.tup [(false, [.s .own pace r.1]), (false, [.v (.int .i64 r.2)])], [])⟩ :=
  con_of (envOk (F28_tOk k) _ _ _ _) mixed Try.func28 rfl rfl (F28_ev k a0 some)
/-! 9: loop.example/netstack/laws.FnSlow -/
def F9_h : Nat → Hint
  | 0 => ⟨[(4, .plain), (5, .own .own pace []), (6, .plain), (7, .plain)], []⟩
  | _ => ⟨[], []⟩
def F9_t (k : Nat) : Tab
  | 28, [.one (.l (.s .ro (.int .u8) a0))] => some ⟨F28 k a0, fun r => (.tup [(false, [.s .own pace r.1]), (false, [.v (.int .i64 r.2)])], [])⟩
  | 21, [.one (.l (.s .ro (.pair (.int .i64) (.pair (.int .i64) (.int .i64))) a0))] => some ⟨F21 k a0, fun r => (.one (.v (.int .i64 r)), [])⟩
  | 20, [.one (.l (.s .ro (.pair (.int .i64) (.pair (.int .i64) (.int .i64))) a0))] => some ⟨F20 k a0, fun r => (.one (.v (.int .i64 r)), [])⟩
  | 29, [.one (.l (.s .ro (.pair (.int .i64) (.pair (.int .i64) (.int .i64))) a0)), .one (.l (.v (.int .i64 a1)))] => some ⟨F29 k a0 a1, fun r => (.tup [(false, [.s .own pace r.1]), (false, [.v (.bool r.2)])], [])⟩
  | 25, [] => some ⟨F25 k, fun r => (.one (.v (.bool r)), [])⟩
  | _, _ => none
abbrev F9_E (k : Nat) : Env := env (F9_t k) F9_h .own [] k
def F9_s0 (a0 : List (den (.int .u8))) (x4_0 : Int) (x6_0 : Int) (x7_0 : Int) (m5900_0 : List (den pace)) : St := ⟨[.one .d, .one .d, .one .d, .one .d, .one (.v (.int .i64 x4_0)), .one (.a (.cell 5900) 0 0 none), .one (.v (.int .i64 x6_0)), .one (.v (.int .i64 x7_0)), .one .d, .one .d, .one .d, .one .d, .one .d, .one .d, .one .d, .one .d, .one .d, .one .d, .one .d, .one .d, .one .d, .one .d, .one .d, .one .d, .one .d, .one .d, .one .d, .one .d, .one .d, .one .d, .one .d, .one .d, .one .d, .one .d, .one .d, .one .d, .one .d, .one .d, .one .d, .one .d, .one .d, .one .d, .one .d, .one .d, .one .d, .one .d, .one .d, .one .d, .one .d, .one .d, .one .d, .one .d, .one .d, .one .d, .one .d, .one .d, .one .d, .one .d, .one .d, .one .d, .one .d, .one .d], [(5900, ⟨.s .own pace m5900_0, 0, 0⟩)]⟩
def F9_l0 (k : Nat) (a0 : List (den (.int .u8))) : Nat → Int → Int → Int → List (den pace) → Option (Bool)
  | 0, _, _, _, _ => none
  | n + 1, x4_0, x6_0, x7_0, m5900_0 =>
    cond (decide (x7_0 < 200))
      ((F29 k m5900_0 x4_0).bind fun b4 =>
        (F21 k b4.1).bind fun b5 =>
          (F21 k m5900_0).bind fun b6 =>
            cond (decide (b5 > (if b6 < 1 then 1 else b6)))
              (some false)
              (cond ((!b4.2))
                ((F21 k b4.1).bind fun b7 =>
                  (F21 k m5900_0).bind fun b8 =>
                    cond (decide (b7 > (IntKind.i64.wrap ((IntKind.i64.wrap (b8 + 1)).tdiv 2))))
                      (some false)
                      (F9_l0 k a0 n x4_0 (IntKind.i64.wrap (x6_0 + 1)) (IntKind.i64.wrap (x7_0 + 1)) b4.1))
                (F9_l0 k a0 n x4_0 x6_0 (IntKind.i64.wrap (x7_0 + 1)) b4.1)))
      (cond (decide (x6_0 < 8))
        ((F25 k).bind fun b9 =>
          some b9)
        ((F21 k m5900_0).bind fun b10 =>
          cond (decide (b10 ≤ 2))
            ((F25 k).bind fun b11 =>
              some b11)
            (some false)))
theorem F9_l0_rd {β : Type} (k n : Nat) (a0 : List (den (.int .u8))) (x4_0 : Int) (x6_0 : Int) (x7_0 : Int) (m5900_0 : List (den pace)) (K : A × List (List Leaf) → Option β) :
    loopG (F9_E k) Try.f9 [1, 1, 1, 1, 1, 1, 0, 1, 0] 0 (kontAt (F9_E k) [1, 1, 1, 1, 1, 1, 0, 1, 0] (bodyOf Try.f9) 0 (endC (F9_E k) Try.f9 [.one (.l (.s .ro (.int .u8) a0))] K)) (n + 1) (F9_s0 a0 x4_0 x6_0 x7_0 m5900_0) =
    cond (decide (x7_0 < 200))
      ((F29 k m5900_0 x4_0).bind fun b4 =>
        (F21 k b4.1).bind fun b5 =>
          (F21 k m5900_0).bind fun b6 =>
            cond (decide (b5 > (if b6 < 1 then 1 else b6)))
              (K (.one (.v (.bool false)), []))
              (cond ((!b4.2))
                ((F21 k b4.1).bind fun b7 =>
                  (F21 k m5900_0).bind fun b8 =>
                    cond (decide (b7 > (IntKind.i64.wrap ((IntKind.i64.wrap (b8 + 1)).tdiv 2))))
                      (K (.one (.v (.bool false)), []))
                      (loopG (F9_E k) Try.f9 [1, 1, 1, 1, 1, 1, 0, 1, 0] 0 (kontAt (F9_E k) [1, 1, 1, 1, 1, 1, 0, 1, 0] (bodyOf Try.f9) 0 (endC (F9_E k) Try.f9 [.one (.l (.s .ro (.int .u8) a0))] K)) n (F9_s0 a0 x4_0 (IntKind.i64.wrap (x6_0 + 1)) (IntKind.i64.wrap (x7_0 + 1)) b4.1)))
                (loopG (F9_E k) Try.f9 [1, 1, 1, 1, 1, 1, 0, 1, 0] 0 (kontAt (F9_E k) [1, 1, 1, 1, 1, 1, 0, 1, 0] (bodyOf Try.f9) 0 (endC (F9_E k) Try.f9 [.one (.l (.s .ro (.int .u8) a0))] K)) n (F9_s0 a0 x4_0 x6_0 (IntKind.i64.wrap (x7_0 + 1)) b4.1))))
      (cond (decide (x6_0 < 8))
        ((F25 k).bind fun b9 =>
          K (.one (.v (.bool b9)), []))
        ((F21 k m5900_0).bind fun b10 =>
          cond (decide (b10 ≤ 2))
            ((F25 k).bind fun b11 =>
              K (.one (.v (.bool b11)), []))
            (K (.one (.v (.bool false)), [])))) := by kernel_rfl
theorem F9_l0_lp {β : Type} (k : Nat) (a0 : List (den (.int .u8))) (K : A × List (List Leaf) → Option β) (n : Nat) : ∀ (x4_0 : Int) (x6_0 : Int) (x7_0 : Int) (m5900_0 : List (den pace)), loopG (F9_E k) Try.f9 [1, 1, 1, 1, 1, 1, 0, 1, 0] 0 (kontAt (F9_E k) [1, 1, 1, 1, 1, 1, 0, 1, 0] (bodyOf Try.f9) 0 (endC (F9_E k) Try.f9 [.one (.l (.s .ro (.int .u8) a0))] K)) n (F9_s0 a0 x4_0 x6_0 x7_0 m5900_0) =
    (F9_l0 k a0 n x4_0 x6_0 x7_0 m5900_0).bind fun r => K (.one (.v (.bool r)), []) := by
  induction n with
  | zero => intros; rfl
  | succ n ih =>
    intros
    rw [F9_l0_rd, F9_l0]
    simp only [bind_cond, Option.bind_assoc, Option.bind_some, Option.bind_none, Option.bind_fun_some, ih]
def F9 (k : Nat) (a0 : List (den (.int .u8))) : Option (Bool) :=
  cond (decide (((a0.length : Nat) : Int) > 1048576))
    (some true)
    ((F28 k a0).bind fun b1 =>
      (F21 k b1.1).bind fun b2 =>
        (F20 k b1.1).bind fun b3 =>
          cond ((b2 != b3))
            (some false)
            (F9_l0 k a0 k b1.2 0 0 b1.1))
theorem F9_st {β : Type} (k : Nat) (a0 : List (den (.int .u8))) (K : A × List (List Leaf) → Option β) : evalF (F9_E k) Try.f9 [.one (.l (.s .ro (.int .u8) a0))] K =
    cond (decide (((a0.length : Nat) : Int) > 1048576))
      (K (.one (.v (.bool true)), []))
      ((F28 k a0).bind fun b1 =>
        (F21 k b1.1).bind fun b2 =>
          (F20 k b1.1).bind fun b3 =>
            cond ((b2 != b3))
              (K (.one (.v (.bool false)), []))
              (loopG (F9_E k) Try.f9 [1, 1, 1, 1, 1, 1, 0, 1, 0] 0 (kontAt (F9_E k) [1, 1, 1, 1, 1, 1, 0, 1, 0] (bodyOf Try.f9) 0 (endC (F9_E k) Try.f9 [.one (.l (.s .ro (.int .u8) a0))] K)) k (F9_s0 a0 b1.2 0 0 b1.1))) := by kernel_rfl
theorem F9_ev {β : Type} (k : Nat) (a0 : List (den (.int .u8))) (K : A × List (List Leaf) → Option β) : evalF (F9_E k) Try.f9 [.one (.l (.s .ro (.int .u8) a0))] K = (F9 k a0).bind fun r => K (.one (.v (.bool r)), []) := by
  rw [F9_st, F9]
  simp only [bind_cond, Option.bind_assoc, Option.bind_some, Option.bind_none, Option.bind_fun_some, F9_l0_lp]
theorem F9_tOk (k : Nat) : TabFn Try.prog (F9_t k) := by
  constructor <;> intro f xs cr h <;> unfold F9_t at h <;> split at h <;> first | (simp only [Option.some.injEq] at h; subst h) | (simp at h; done)
  · exact F28_con _ _
  · exact F21_con _ _
  · exact F20_con _ _
  · exact F29_con _ _ _
  · exact F25_con _
  · exact .of (by kernel_rfl)
  · exact .of (by kernel_rfl)
  · exact .of (by kernel_rfl)
  · exact .of (by kernel_rfl)
  · exact .of (by kernel_rfl)
theorem F9_con (k : Nat) (a0 : List (den (.int .u8))) : Contract Try.prog 9 [.one (.l (.s .ro (.int .u8) a0))] ⟨F9 k a0, fun r => (.one (.v (.bool r)), [])⟩ :=
  con_of (envOk (F9_tOk k) _ _ _ _) mixed Try.func9 rfl rfl (F9_ev k a0 some)
/-! 33: loop.example/netstack/spec.DrawSharedStep -/
def F33_t (k : Nat) : Tab
  | 56, [.one (.l (.s .ro (.int .u8) a0))] => some ⟨F56 k a0, fun r => (.one (.ptr (.cell 0) 2 0), [[.s .ro (.int .u8) r.1, .v (.int .i64 r.2)]])⟩
  | 55, [.one (.p [.s .ro (.int .u8) a0_0, .v (.int .i64 a0_1)]), .one (.l (.v (.int .i64 a1)))] => some ⟨F55 k a0_0 a0_1 a1, fun r => (.one (.s .own pace r.1), [[.s .ro (.int .u8) r.2.1, .v (.int .i64 r.2.2)]])⟩
  | 58, [.one (.p [.s .ro (.int .u8) a0_0, .v (.int .i64 a0_1)]), .one (.l (.v (.int .i64 a1)))] => some ⟨F58 k a0_0 a0_1 a1, fun r => (.one (.v (.int .i64 r.1)), [[.s .ro (.int .u8) r.2.1, .v (.int .i64 r.2.2)]])⟩
  | _, _ => none
abbrev F33_E (k : Nat) : Env := env (F33_t k) noHint .own [] k
def F33 (k : Nat) (a0 : List (den (.int .u8))) : Option (List (den pace) × Int) :=
  (F56 k a0).bind fun b1 =>
    (F55 k b1.1 b1.2 12).bind fun b2 =>
      (F58 k b2.2.1 b2.2.2 256).bind fun b3 =>
        (F58 k b3.2.1 b3.2.2 15).bind fun b4 =>
          some (b2.1, IntKind.i64.wrap (b3.1 + (IntKind.i64.wrap ((IntKind.i64.wrap (b4.1.tdiv 14)) * 900))))
theorem F33_st {β : Type} (k : Nat) (a0 : List (den (.int .u8))) (K : A × List (List Leaf) → Option β) : evalF (F33_E k) Try.f33 [.one (.l (.s .ro (.int .u8) a0))] K =
    (F56 k a0).bind fun b1 =>
      (F55 k b1.1 b1.2 12).bind fun b2 =>
        (F58 k b2.2.1 b2.2.2 256).bind fun b3 =>
          (F58 k b3.2.1 b3.2.2 15).bind fun b4 =>
            K (.tup [(false, [.s .own pace b2.1]), (false, [.v (.int .i64 (IntKind.i64.wrap (b3.1 + (IntKind.i64.wrap ((IntKind.i64.wrap (b4.1.tdiv 14)) * 900)))))])], []) := by kernel_rfl
theorem F33_ev {β : Type} (k : Nat) (a0 : List (den (.int .u8))) (K : A × List (List Leaf) → Option β) : evalF (F33_E k) Try.f33 [.one (.l (.s .ro (.int .u8) a0))] K = (F33 k a0).bind fun r => K (.tup [(false, [.s .own pace r.1]), (false, [.v (.int .i64 r.2)])], []) := by
  rw [F33_st, F33]
  simp only [bind_cond, Option.bind_assoc, Option.bind_some, Option.bind_none, Option.bind_fun_some]
theorem F33_tOk (k : Nat) : TabFn Try.prog (F33_t k) := by
  constructor <;> intro f xs cr h <;> unfold F33_t at h <;> split at h <;> first | (simp only [Option.some.injEq] at h; subst h) | (simp at h; done)
  · exact F56_con _ _
  · exact F55_con _ _ _ _
  · exact F58_con _ _ _ _
  · exact .of (by kernel_rfl)
  · exact .of (by kernel_rfl)
  · exact .of (by kernel_rfl)
theorem F33_con (k : Nat) (a0 : List (den (.int .u8))) : Contract Try.prog 33 [.one (.l (.s .ro (.int .u8) a0))] ⟨F33 k a0, fun r => (.tup [(false, [.s .own pace r.1]), (false, [.v (.int .i64 r.2)])], [])⟩ :=
  con_of (envOk (F33_tOk k) _ _ _ _) mixed Try.func33 rfl rfl (F33_ev k a0 some)
/-! 34: loop.example/netstack/laws.samePaces -/
def F34_h : Nat → Hint
  | 0 => ⟨[(0, .plain), (1, .plain), (5, .plain)], []⟩
  | _ => ⟨[], []⟩
abbrev F34_E (k : Nat) : Env := env noTab F34_h .own [] k
def F34_s0 (a0 : List (den pace)) (a1 : List (den pace)) (x5_0 : Int) : St := ⟨[.one (.s .ro pace a0), .one (.s .ro pace a1), .one .d, .one .d, .one .d, .one (.v (.int .i64 x5_0)), .one .d, .one .d, .one .d, .one .d, .one .d, .one .d, .one .d, .one .d, .one .d, .one .d, .one .d, .one .d, .one .d, .one .d, .one .d, .one .d, .one .d, .one .d, .one .d, .one .d], []⟩
def F34_l0 (k : Nat) (a0 : List (den pace)) (a1 : List (den pace)) : Nat → Int → Option (Bool)
  | 0, _ => none
  | n + 1, x5_0 =>
    cond (decide (x5_0 < ((a0.length : Nat) : Int)))
      (cond (decide (0 ≤ x5_0))
        (cond (decide (x5_0 < ((a0.length : Nat) : Int)))
          (cond (decide (0 ≤ x5_0))
            (cond (decide (x5_0 < ((a1.length : Nat) : Int)))
              (cond ((!(eqD pace ((atI a0 x5_0).1, ((atI a0 x5_0).2)) ((atI a1 x5_0).1, ((atI a1 x5_0).2)))))
                (some false)
                (F34_l0 k a0 a1 n (IntKind.i64.wrap (x5_0 + 1))))
              (none))
            (none))
          (none))
        (none))
      (some true)
theorem F34_l0_rd {β : Type} (k n : Nat) (a0 : List (den pace)) (a1 : List (den pace)) (x5_0 : Int) (K : A × List (List Leaf) → Option β) :
    loopG (F34_E k) Try.f34 [1, 1, 0, 1, 0] 0 (kontAt (F34_E k) [1, 1, 0, 1, 0] (bodyOf Try.f34) 0 (endC (F34_E k) Try.f34 [.one (.l (.s .ro pace a0)), .one (.l (.s .ro pace a1))] K)) (n + 1) (F34_s0 a0 a1 x5_0) =
    cond (decide (x5_0 < ((a0.length : Nat) : Int)))
      (cond (decide (0 ≤ x5_0))
        (cond (decide (x5_0 < ((a0.length : Nat) : Int)))
          (cond (decide (0 ≤ x5_0))
            (cond (decide (x5_0 < ((a1.length : Nat) : Int)))
              (cond ((!(eqD pace ((atI a0 x5_0).1, ((atI a0 x5_0).2)) ((atI a1 x5_0).1, ((atI a1 x5_0).2)))))
                (K (.one (.v (.bool false)), []))
                (loopG (F34_E k) Try.f34 [1, 1, 0, 1, 0] 0 (kontAt (F34_E k) [1, 1, 0, 1, 0] (bodyOf Try.f34) 0 (endC (F34_E k) Try.f34 [.one (.l (.s .ro pace a0)), .one (.l (.s .ro pace a1))] K)) n (F34_s0 a0 a1 (IntKind.i64.wrap (x5_0 + 1)))))
              (none))
            (none))
          (none))
        (none))
      (K (.one (.v (.bool true)), [])) := by kernel_rfl
theorem F34_l0_lp {β : Type} (k : Nat) (a0 : List (den pace)) (a1 : List (den pace)) (K : A × List (List Leaf) → Option β) (n : Nat) : ∀ (x5_0 : Int), loopG (F34_E k) Try.f34 [1, 1, 0, 1, 0] 0 (kontAt (F34_E k) [1, 1, 0, 1, 0] (bodyOf Try.f34) 0 (endC (F34_E k) Try.f34 [.one (.l (.s .ro pace a0)), .one (.l (.s .ro pace a1))] K)) n (F34_s0 a0 a1 x5_0) =
    (F34_l0 k a0 a1 n x5_0).bind fun r => K (.one (.v (.bool r)), []) := by
  induction n with
  | zero => intros; rfl
  | succ n ih =>
    intros
    rw [F34_l0_rd, F34_l0]
    simp only [bind_cond, Option.bind_assoc, Option.bind_some, Option.bind_none, Option.bind_fun_some, ih]
def F34 (k : Nat) (a0 : List (den pace)) (a1 : List (den pace)) : Option (Bool) :=
  cond ((((a0.length : Nat) : Int) != ((a1.length : Nat) : Int)))
    (some false)
    (F34_l0 k a0 a1 k 0)
theorem F34_st {β : Type} (k : Nat) (a0 : List (den pace)) (a1 : List (den pace)) (K : A × List (List Leaf) → Option β) : evalF (F34_E k) Try.f34 [.one (.l (.s .ro pace a0)), .one (.l (.s .ro pace a1))] K =
    cond ((((a0.length : Nat) : Int) != ((a1.length : Nat) : Int)))
      (K (.one (.v (.bool false)), []))
      (loopG (F34_E k) Try.f34 [1, 1, 0, 1, 0] 0 (kontAt (F34_E k) [1, 1, 0, 1, 0] (bodyOf Try.f34) 0 (endC (F34_E k) Try.f34 [.one (.l (.s .ro pace a0)), .one (.l (.s .ro pace a1))] K)) k (F34_s0 a0 a1 0)) := by kernel_rfl
theorem F34_ev {β : Type} (k : Nat) (a0 : List (den pace)) (a1 : List (den pace)) (K : A × List (List Leaf) → Option β) : evalF (F34_E k) Try.f34 [.one (.l (.s .ro pace a0)), .one (.l (.s .ro pace a1))] K = (F34 k a0 a1).bind fun r => K (.one (.v (.bool r)), []) := by
  rw [F34_st, F34]
  simp only [bind_cond, Option.bind_assoc, Option.bind_some, Option.bind_none, Option.bind_fun_some, F34_l0_lp]
theorem F34_con (k : Nat) (a0 : List (den pace)) (a1 : List (den pace)) : Contract Try.prog 34 [.one (.l (.s .ro pace a0)), .one (.l (.s .ro pace a1))] ⟨F34 k a0 a1, fun r => (.one (.v (.bool r)), [])⟩ :=
  con_of (envOk .none _ _ _ _) mixed Try.func34 rfl rfl (F34_ev k a0 a1 some)
/-! 11: loop.example/netstack/laws.FnSharedStep -/
def F11_t (k : Nat) : Tab
  | 33, [.one (.l (.s .ro (.int .u8) a0))] => some ⟨F33 k a0, fun r => (.tup [(false, [.s .own pace r.1]), (false, [.v (.int .i64 r.2)])], [])⟩
  | 29, [.one (.l (.s .ro (.pair (.int .i64) (.pair (.int .i64) (.int .i64))) a0)), .one (.l (.v (.int .i64 a1)))] => some ⟨F29 k a0 a1, fun r => (.tup [(false, [.s .own pace r.1]), (false, [.v (.bool r.2)])], [])⟩
  | 30, [.one (.l (.s .ro (.pair (.int .i64) (.pair (.int .i64) (.int .i64))) a0)), .one (.l (.v (.int .i64 a1)))] => some ⟨F30 k a0 a1, fun r => (.tup [(false, [.s .own pace r.1]), (false, [.v (.bool r.2)])], [])⟩
  | 34, [.one (.l (.s .ro (.pair (.int .i64) (.pair (.int .i64) (.int .i64))) a0)), .one (.l (.s .ro (.pair (.int .i64) (.pair (.int .i64) (.int .i64))) a1))] => some ⟨F34 k a0 a1, fun r => (.one (.v (.bool r)), [])⟩
  | 25, [] => some ⟨F25 k, fun r => (.one (.v (.bool r)), [])⟩
  | 23, [.one (.l (.s .ro (.pair (.int .i64) (.pair (.int .i64) (.int .i64))) a0))] => some ⟨F23 k a0, fun r => (.one (.v (.int .i64 r)), [])⟩
  | 18, [.one (.l (.s .ro (.pair (.int .i64) (.pair (.int .i64) (.int .i64))) a0))] => some ⟨F18 k a0, fun r => (.one (.v (.bool r)), [])⟩
  | _, _ => none
abbrev F11_E (k : Nat) : Env := env (F11_t k) noHint .own [] k
def F11 (k : Nat) (a0 : List (den (.int .u8))) : Option (Bool) :=
  cond (decide (((a0.length : Nat) : Int) > 1048576))
    (some true)
    ((F33 k a0).bind fun b1 =>
      (F29 k b1.1 b1.2).bind fun b2 =>
        (F30 k b1.1 b1.2).bind fun b3 =>
          cond ((!(b2.2 == b3.2)))
            (some false)
            ((F34 k b2.1 b3.1).bind fun b4 =>
              cond ((!b4))
                (some false)
                (cond ((((b2.1.length : Nat) : Int) == 0))
                  (cond ((!b2.2))
                    ((F25 k).bind fun b5 =>
                      some b5)
                    (some false))
                  ((F23 k b1.1).bind fun b6 =>
                    (F23 k b2.1).bind fun b7 =>
                      (F18 k b2.1).bind fun b8 =>
                        cond (b8)
                          (cond ((b2.2 == (decide (b6 ≤ b1.2))))
                            (cond (b2.2)
                              (cond (decide (b7 ≥ b6))
                                (cond (decide (b7 ≤ (IntKind.i64.wrap (2 * b6))))
                                  ((F25 k).bind fun b9 =>
                                    some b9)
                                  (cond ((!b2.2))
                                    (cond (decide (b7 ≤ (IntKind.i64.wrap ((IntKind.i64.wrap (b6.tdiv 2)) + (IntKind.i64.wrap (2 * ((b1.1.length : Nat) : Int)))))))
                                      ((F25 k).bind fun b10 =>
                                        some b10)
                                      (some false))
                                    (some false)))
                                (cond ((!b2.2))
                                  (cond (decide (b7 ≤ (IntKind.i64.wrap ((IntKind.i64.wrap (b6.tdiv 2)) + (IntKind.i64.wrap (2 * ((b1.1.length : Nat) : Int)))))))
                                    ((F25 k).bind fun b11 =>
                                      some b11)
                                    (some false))
                                  (some false)))
                              (cond ((!b2.2))
                                (cond (decide (b7 ≤ (IntKind.i64.wrap ((IntKind.i64.wrap (b6.tdiv 2)) + (IntKind.i64.wrap (2 * ((b1.1.length : Nat) : Int)))))))
                                  ((F25 k).bind fun b12 =>
                                    some b12)
                                  (some false))
                                (some false)))
                            (some false))
                          (some false)))))
theorem F11_st {β : Type} (k : Nat) (a0 : List (den (.int .u8))) (K : A × List (List Leaf) → Option β) : evalF (F11_E k) Try.f11 [.one (.l (.s .ro (.int .u8) a0))] K =
    cond (decide (((a0.length : Nat) : Int) > 1048576))
      (K (.one (.v (.bool true)), []))
      ((F33 k a0).bind fun b1 =>
        (F29 k b1.1 b1.2).bind fun b2 =>
          (F30 k b1.1 b1.2).bind fun b3 =>
            cond ((!(b2.2 == b3.2)))
              (K (.one (.v (.bool false)), []))
              ((F34 k b2.1 b3.1).bind fun b4 =>
                cond ((!b4))
                  (K (.one (.v (.bool false)), []))
                  (cond ((((b2.1.length : Nat) : Int) == 0))
                    (cond ((!b2.2))
                      ((F25 k).bind fun b5 =>
                        K (.one (.v (.bool b5)), []))
                      (K (.one (.v (.bool false)), [])))
                    ((F23 k b1.1).bind fun b6 =>
                      (F23 k b2.1).bind fun b7 =>
                        (F18 k b2.1).bind fun b8 =>
                          cond (b8)
                            (cond ((b2.2 == (decide (b6 ≤ b1.2))))
                              (cond (b2.2)
                                (cond (decide (b7 ≥ b6))
                                  (cond (decide (b7 ≤ (IntKind.i64.wrap (2 * b6))))
                                    ((F25 k).bind fun b9 =>
                                      K (.one (.v (.bool b9)), []))
                                    (cond ((!b2.2))
                                      (cond (decide (b7 ≤ (IntKind.i64.wrap ((IntKind.i64.wrap (b6.tdiv 2)) + (IntKind.i64.wrap (2 * ((b1.1.length : Nat) : Int)))))))
                                        ((F25 k).bind fun b10 =>
                                          K (.one (.v (.bool b10)), []))
                                        (K (.one (.v (.bool false)), [])))
                                      (K (.one (.v (.bool false)), []))))
                                  (cond ((!b2.2))
                                    (cond (decide (b7 ≤ (IntKind.i64.wrap ((IntKind.i64.wrap (b6.tdiv 2)) + (IntKind.i64.wrap (2 * ((b1.1.length : Nat) : Int)))))))
                                      ((F25 k).bind fun b11 =>
                                        K (.one (.v (.bool b11)), []))
                                      (K (.one (.v (.bool false)), [])))
                                    (K (.one (.v (.bool false)), []))))
                                (cond ((!b2.2))
                                  (cond (decide (b7 ≤ (IntKind.i64.wrap ((IntKind.i64.wrap (b6.tdiv 2)) + (IntKind.i64.wrap (2 * ((b1.1.length : Nat) : Int)))))))
                                    ((F25 k).bind fun b12 =>
                                      K (.one (.v (.bool b12)), []))
                                    (K (.one (.v (.bool false)), [])))
                                  (K (.one (.v (.bool false)), []))))
                              (K (.one (.v (.bool false)), [])))
                            (K (.one (.v (.bool false)), [])))))) := by kernel_rfl
theorem F11_ev {β : Type} (k : Nat) (a0 : List (den (.int .u8))) (K : A × List (List Leaf) → Option β) : evalF (F11_E k) Try.f11 [.one (.l (.s .ro (.int .u8) a0))] K = (F11 k a0).bind fun r => K (.one (.v (.bool r)), []) := by
  rw [F11_st, F11]
  simp only [bind_cond, Option.bind_assoc, Option.bind_some, Option.bind_none, Option.bind_fun_some]
theorem F11_tOk (k : Nat) : TabFn Try.prog (F11_t k) := by
  constructor <;> intro f xs cr h <;> unfold F11_t at h <;> split at h <;> first | (simp only [Option.some.injEq] at h; subst h) | (simp at h; done)
  · exact F33_con _ _
  · exact F29_con _ _ _
  · exact F30_con _ _ _
  · exact F34_con _ _ _
  · exact F25_con _
  · exact F23_con _ _
  · exact F18_con _ _
  · exact .of (by kernel_rfl)
  · exact .of (by kernel_rfl)
  · exact .of (by kernel_rfl)
  · exact .of (by kernel_rfl)
  · exact .of (by kernel_rfl)
  · exact .of (by kernel_rfl)
  · exact .of (by kernel_rfl)
theorem F11_con (k : Nat) (a0 : List (den (.int .u8))) : Contract Try.prog 11 [.one (.l (.s .ro (.int .u8) a0))] ⟨F11 k a0, fun r => (.one (.v (.bool r)), [])⟩ :=
  con_of (envOk (F11_tOk k) _ _ _ _) mixed Try.func11 rfl rfl (F11_ev k a0 some)
/-! 37: loop.example/netstack/spec.DrawSharedRun -/
def F37_t (k : Nat) : Tab
  | 56, [.one (.l (.s .ro (.int .u8) a0))] => some ⟨F56 k a0, fun r => (.one (.ptr (.cell 0) 2 0), [[.s .ro (.int .u8) r.1, .v (.int .i64 r.2)]])⟩
  | 55, [.one (.p [.s .ro (.int .u8) a0_0, .v (.int .i64 a0_1)]), .one (.l (.v (.int .i64 a1)))] => some ⟨F55 k a0_0 a0_1 a1, fun r => (.one (.s .own pace r.1), [[.s .ro (.int .u8) r.2.1, .v (.int .i64 r.2.2)]])⟩
  | 58, [.one (.p [.s .ro (.int .u8) a0_0, .v (.int .i64 a0_1)]), .one (.l (.v (.int .i64 a1)))] => some ⟨F58 k a0_0 a0_1 a1, fun r => (.one (.v (.int .i64 r.1)), [[.s .ro (.int .u8) r.2.1, .v (.int .i64 r.2.2)]])⟩
  | _, _ => none
abbrev F37_E (k : Nat) : Env := env (F37_t k) noHint .own [] k
def F37 (k : Nat) (a0 : List (den (.int .u8))) : Option (List (den pace) × Int × Int) :=
  (F56 k a0).bind fun b1 =>
    (F55 k b1.1 b1.2 15).bind fun b2 =>
      (F58 k b2.2.1 b2.2.2 250).bind fun b3 =>
        (F58 k b3.2.1 b3.2.2 60).bind fun b4 =>
          (F58 k b4.2.1 b4.2.2 20).bind fun b5 =>
            some (b2.1, IntKind.i64.wrap (1 + b3.1), IntKind.i64.wrap (b4.1 + (IntKind.i64.wrap ((IntKind.i64.wrap (b5.1.tdiv 19)) * 200))))
theorem F37_st {β : Type} (k : Nat) (a0 : List (den (.int .u8))) (K : A × List (List Leaf) → Option β) : evalF (F37_E k) Try.f37 [.one (.l (.s .ro (.int .u8) a0))] K =
    (F56 k a0).bind fun b1 =>
      (F55 k b1.1 b1.2 15).bind fun b2 =>
        (F58 k b2.2.1 b2.2.2 250).bind fun b3 =>
          (F58 k b3.2.1 b3.2.2 60).bind fun b4 =>
            (F58 k b4.2.1 b4.2.2 20).bind fun b5 =>
              K (.tup [(false, [.s .own pace b2.1]), (false, [.v (.int .i64 (IntKind.i64.wrap (1 + b3.1)))]), (false, [.v (.int .i64 (IntKind.i64.wrap (b4.1 + (IntKind.i64.wrap ((IntKind.i64.wrap (b5.1.tdiv 19)) * 200)))))])], []) := by kernel_rfl
theorem F37_ev {β : Type} (k : Nat) (a0 : List (den (.int .u8))) (K : A × List (List Leaf) → Option β) : evalF (F37_E k) Try.f37 [.one (.l (.s .ro (.int .u8) a0))] K = (F37 k a0).bind fun r => K (.tup [(false, [.s .own pace r.1]), (false, [.v (.int .i64 r.2.1)]), (false, [.v (.int .i64 r.2.2)])], []) := by
  rw [F37_st, F37]
  simp only [bind_cond, Option.bind_assoc, Option.bind_some, Option.bind_none, Option.bind_fun_some]
theorem F37_tOk (k : Nat) : TabFn Try.prog (F37_t k) := by
  constructor <;> intro f xs cr h <;> unfold F37_t at h <;> split at h <;> first | (simp only [Option.some.injEq] at h; subst h) | (simp at h; done)
  · exact F56_con _ _
  · exact F55_con _ _ _ _
  · exact F58_con _ _ _ _
  · exact .of (by kernel_rfl)
  · exact .of (by kernel_rfl)
  · exact .of (by kernel_rfl)
theorem F37_con (k : Nat) (a0 : List (den (.int .u8))) : Contract Try.prog 37 [.one (.l (.s .ro (.int .u8) a0))] ⟨F37 k a0, fun r => (.tup [(false, [.s .own pace r.1]), (false, [.v (.int .i64 r.2.1)]), (false, [.v (.int .i64 r.2.2)])], [])⟩ :=
  con_of (envOk (F37_tOk k) _ _ _ _) mixed Try.func37 rfl rfl (F37_ev k a0 some)
/-! 13: loop.example/netstack/laws.FnSharedRun -/
def F13_t (k : Nat) : Tab
  | 37, [.one (.l (.s .ro (.int .u8) a0))] => some ⟨F37 k a0, fun r => (.tup [(false, [.s .own pace r.1]), (false, [.v (.int .i64 r.2.1)]), (false, [.v (.int .i64 r.2.2)])], [])⟩
  | 36, [.one (.l (.s .ro (.pair (.int .i64) (.pair (.int .i64) (.int .i64))) a0)), .one (.l (.v (.int .i64 a1))), .one (.l (.v (.int .i64 a2)))] => some ⟨F36 k a0 a1 a2, fun r => (.tup [(false, [.s .own pace r.1]), (false, [.v (.int .i64 r.2)])], [])⟩
  | 35, [.one (.l (.s .ro (.pair (.int .i64) (.pair (.int .i64) (.int .i64))) a0)), .one (.l (.v (.int .i64 a1))), .one (.l (.v (.int .i64 a2)))] => some ⟨F35 k a0 a1 a2, fun r => (.tup [(false, [.s .own pace r.1]), (false, [.v (.int .i64 r.2)])], [])⟩
  | 34, [.one (.l (.s .ro (.pair (.int .i64) (.pair (.int .i64) (.int .i64))) a0)), .one (.l (.s .ro (.pair (.int .i64) (.pair (.int .i64) (.int .i64))) a1))] => some ⟨F34 k a0 a1, fun r => (.one (.v (.bool r)), [])⟩
  | 25, [] => some ⟨F25 k, fun r => (.one (.v (.bool r)), [])⟩
  | 18, [.one (.l (.s .ro (.pair (.int .i64) (.pair (.int .i64) (.int .i64))) a0))] => some ⟨F18 k a0, fun r => (.one (.v (.bool r)), [])⟩
  | _, _ => none
abbrev F13_E (k : Nat) : Env := env (F13_t k) noHint .own [] k
def F13 (k : Nat) (a0 : List (den (.int .u8))) : Option (Bool) :=
  cond (decide (((a0.length : Nat) : Int) > 1048576))
    (some true)
    ((F37 k a0).bind fun b1 =>
      (F36 k b1.1 b1.2.1 b1.2.2).bind fun b2 =>
        (F35 k b1.1 b1.2.1 b1.2.2).bind fun b3 =>
          cond ((b2.2 != b3.2))
            (some false)
            ((F34 k b2.1 b3.1).bind fun b4 =>
              cond ((!b4))
                (some false)
                (cond ((((b2.1.length : Nat) : Int) == 0))
                  (cond ((b2.2 == 0))
                    ((F25 k).bind fun b5 =>
                      some b5)
                    (some false))
                  ((F36 k b1.1 b1.2.1 (IntKind.i64.wrap (b1.2.2.tdiv 2))).bind fun b6 =>
                    (F36 k b6.1 b1.2.1 (IntKind.i64.wrap (b1.2.2 - (IntKind.i64.wrap (b1.2.2.tdiv 2))))).bind fun b7 =>
                      (F18 k b2.1).bind fun b8 =>
                        cond (b8)
                          (cond (decide (b2.2 ≥ 0))
                            (cond (decide (b2.2 ≤ (IntKind.i64.wrap (b1.2.1 * b1.2.2))))
                              ((F34 k b7.1 b2.1).bind fun b9 =>
                                cond (b9)
                                  (cond (((IntKind.i64.wrap (b6.2 + b7.2)) == b2.2))
                                    ((F25 k).bind fun b10 =>
                                      some b10)
                                    (some false))
                                  (some false))
                              (some false))
                            (some false))
                          (some false)))))
theorem F13_st {β : Type} (k : Nat) (a0 : List (den (.int .u8))) (K : A × List (List Leaf) → Option β) : evalF (F13_E k) Try.f13 [.one (.l (.s .ro (.int .u8) a0))] K =
    cond (decide (((a0.length : Nat) : Int) > 1048576))
      (K (.one (.v (.bool true)), []))
      ((F37 k a0).bind fun b1 =>
        (F36 k b1.1 b1.2.1 b1.2.2).bind fun b2 =>
          (F35 k b1.1 b1.2.1 b1.2.2).bind fun b3 =>
            cond ((b2.2 != b3.2))
              (K (.one (.v (.bool false)), []))
              ((F34 k b2.1 b3.1).bind fun b4 =>
                cond ((!b4))
                  (K (.one (.v (.bool false)), []))
                  (cond ((((b2.1.length : Nat) : Int) == 0))
                    (cond ((b2.2 == 0))
                      ((F25 k).bind fun b5 =>
                        K (.one (.v (.bool b5)), []))
                      (K (.one (.v (.bool false)), [])))
                    ((F36 k b1.1 b1.2.1 (IntKind.i64.wrap (b1.2.2.tdiv 2))).bind fun b6 =>
                      (F36 k b6.1 b1.2.1 (IntKind.i64.wrap (b1.2.2 - (IntKind.i64.wrap (b1.2.2.tdiv 2))))).bind fun b7 =>
                        (F18 k b2.1).bind fun b8 =>
                          cond (b8)
                            (cond (decide (b2.2 ≥ 0))
                              (cond (decide (b2.2 ≤ (IntKind.i64.wrap (b1.2.1 * b1.2.2))))
                                ((F34 k b7.1 b2.1).bind fun b9 =>
                                  cond (b9)
                                    (cond (((IntKind.i64.wrap (b6.2 + b7.2)) == b2.2))
                                      ((F25 k).bind fun b10 =>
                                        K (.one (.v (.bool b10)), []))
                                      (K (.one (.v (.bool false)), [])))
                                    (K (.one (.v (.bool false)), [])))
                                (K (.one (.v (.bool false)), [])))
                              (K (.one (.v (.bool false)), [])))
                            (K (.one (.v (.bool false)), [])))))) := by kernel_rfl
theorem F13_ev {β : Type} (k : Nat) (a0 : List (den (.int .u8))) (K : A × List (List Leaf) → Option β) : evalF (F13_E k) Try.f13 [.one (.l (.s .ro (.int .u8) a0))] K = (F13 k a0).bind fun r => K (.one (.v (.bool r)), []) := by
  rw [F13_st, F13]
  simp only [bind_cond, Option.bind_assoc, Option.bind_some, Option.bind_none, Option.bind_fun_some]
theorem F13_tOk (k : Nat) : TabFn Try.prog (F13_t k) := by
  constructor <;> intro f xs cr h <;> unfold F13_t at h <;> split at h <;> first | (simp only [Option.some.injEq] at h; subst h) | (simp at h; done)
  · exact F37_con _ _
  · exact F36_con _ _ _ _
  · exact F35_con _ _ _ _
  · exact F34_con _ _ _
  · exact F25_con _
  · exact F18_con _ _
  · exact .of (by kernel_rfl)
  · exact .of (by kernel_rfl)
  · exact .of (by kernel_rfl)
  · exact .of (by kernel_rfl)
  · exact .of (by kernel_rfl)
  · exact .of (by kernel_rfl)
theorem F13_con (k : Nat) (a0 : List (den (.int .u8))) : Contract Try.prog 13 [.one (.l (.s .ro (.int .u8) a0))] ⟨F13 k a0, fun r => (.one (.v (.bool r)), [])⟩ :=
  con_of (envOk (F13_tOk k) _ _ _ _) mixed Try.func13 rfl rfl (F13_ev k a0 some)
end Go.Proofs.Ytkbaaipnjbcnlaa.Gn
end
