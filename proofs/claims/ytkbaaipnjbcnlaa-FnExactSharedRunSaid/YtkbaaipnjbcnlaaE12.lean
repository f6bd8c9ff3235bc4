/-
  The functions that a law reaches, as plain Lean functions, their contracts, and what they answer. (A part of the proofs of this seat.)
-/
import Derived.Test.YtkbaaipnjbcnlaaChecked
import Derived.Test.YtkbaaipnjbcnlaaRc
import Derived.KernelRfl

section
set_option linter.unusedVariables false
set_option linter.unusedSimpArgs false
/-
  test
-/
namespace Go.Proofs.Ytkbaaipnjbcnlaa.Gn
open Go.Rf
abbrev pace : Ty := (.pair (.int .i64) (.pair (.int .i64) (.int .i64)))
def tyT : List (Nat × TyI) := [(3, ⟨(.int .i64), false, 0⟩), (4, ⟨.bool, false, 0⟩), (22, ⟨(.sl pace), false, 24⟩), (25, ⟨(.sl pace), false, 24⟩), (33, ⟨pace, true, 0⟩), (61, ⟨pace, true, 0⟩)]
def fldT : FldT := [(33, [(0, 1, false), (1, 1, false), (2, 1, false)]), (61, [(0, 1, false), (1, 1, false), (2, 1, false)])]
def env (tab : Tab) (hint : Nat → Hint) (rm : Rf.Mode) (pins : List (Bool × Nat)) (k : Nat) : Env :=
  { tab := tab, lend := (fun f => cond (Nat.beq f 86) [true] ([])), lent := (fun f => cond (Nat.beq f 31) [true] ([])), pins := pins, ty := asc tyT, fld := fldOf fldT, pw := fun _ => none, cw := fun _ => [], hint := hint, eqt := fun _ => false, rm := rm, fuel := k }
theorem tyOk : AllT (TyOk Try.prog) tyT :=
  ⟨.ofInt (b := 8) (by kernel_rfl) (by kernel_rfl), .ofBool (b := 1) (by kernel_rfl) (by kernel_rfl), .ofSl (te := 61) (b := 24) (by kernel_rfl) (by kernel_rfl) (by kernel_rfl), .ofSl (te := 33) (b := 24) (by kernel_rfl) (by kernel_rfl) (by kernel_rfl), .ofAgg (b := 24) (by kernel_rfl) (by kernel_rfl), .ofAgg (b := 24) (by kernel_rfl) (by kernel_rfl), trivial⟩
theorem fldOk : AllF Try.prog fldT :=
  ⟨⟨⟨by kernel_rfl, by kernel_rfl⟩, ⟨by kernel_rfl, by kernel_rfl⟩, ⟨by kernel_rfl, by kernel_rfl⟩, trivial⟩, ⟨⟨by kernel_rfl, by kernel_rfl⟩, ⟨by kernel_rfl, by kernel_rfl⟩, ⟨by kernel_rfl, by kernel_rfl⟩, trivial⟩, trivial⟩
theorem mixed : Try.prog.follows .mixedOrders = true := by kernel_rfl
theorem bldOk : AllT (fun t i => i.agg = true → BldOk Try.prog t (fldOf fldT t)) tyT :=
  ⟨nofun, nofun, nofun, nofun, fun _ => bld_of (row := [(0, 1, false), (1, 1, false), (2, 1, false)]) rfl (by kernel_rfl) (by kernel_rfl), fun _ => bld_of (row := [(0, 1, false), (1, 1, false), (2, 1, false)]) rfl (by kernel_rfl) (by kernel_rfl), trivial⟩
theorem tysOk (tab : Tab) (hint : Nat → Hint) (rm : Rf.Mode) (pins : List (Bool × Nat)) (k : Nat) : TysOk Try.prog (env tab hint rm pins k) :=
  ⟨fun t i h => tyOk.get h, fun s f z h => fldOk.get h, fun t i h => bldOk.get h, fun t i h => (by cases h)⟩
theorem envOk {tab : Tab} (h : TabFn Try.prog tab) (hint : Nat → Hint) (rm : Rf.Mode) (pins : List (Bool × Nat)) (k : Nat) : EnvOk Try.prog (env tab hint rm pins k) := EnvOk.of (tysOk tab hint rm pins k) h
def noTab : Tab := fun _ _ => none
def noHint : Nat → Hint := fun _ => ⟨[], []⟩
/-! 15: loop.example/netstack/laws.szPaceS -/
abbrev F15_E (k : Nat) : Env := env noTab noHint .own [] k
def F15 (k : Nat) (a0 : List (den pace)) (a1 : Int) : Option (Int) :=
  cond (decide ((IntKind.i64.wrap (a1 - ((a0.length : Nat) : Int))) < 0))
    (some (-1))
    (some (IntKind.i64.wrap (a1 - ((a0.length : Nat) : Int))))
theorem F15_st {β : Type} (k : Nat) (a0 : List (den pace)) (a1 : Int) (K : A × List (List Leaf) → Option β) : evalF (F15_E k) Try.f15 [.one (.l (.s .ro pace a0)), .one (.l (.v (.int .i64 a1)))] K =
    cond (decide ((IntKind.i64.wrap (a1 - ((a0.length : Nat) : Int))) < 0))
      (K (.one (.v (.int .i64 (-1))), []))
      (K (.one (.v (.int .i64 (IntKind.i64.wrap (a1 - ((a0.length : Nat) : Int))))), [])) := by kernel_rfl
theorem F15_ev {β : Type} (k : Nat) (a0 : List (den pace)) (a1 : Int) (K : A × List (List Leaf) → Option β) : evalF (F15_E k) Try.f15 [.one (.l (.s .ro pace a0)), .one (.l (.v (.int .i64 a1)))] K = (F15 k a0 a1).bind fun r => K (.one (.v (.int .i64 r)), []) := by
  rw [F15_st, F15]
  simp only [bind_cond, Option.bind_assoc, Option.bind_some, Option.bind_none, Option.bind_fun_some]
theorem F15_con (k : Nat) (a0 : List (den pace)) (a1 : Int) : Contract Try.prog 15 [.one (.l (.s .ro pace a0)), .one (.l (.v (.int .i64 a1)))] ⟨F15 k a0 a1, fun r => (.one (.v (.int .i64 r)), [])⟩ :=
  con_of (envOk .none _ _ _ _) mixed Try.func15 rfl rfl (F15_ev k a0 a1 some)
/-! 48: loop.example/netstack/laws.toPace -/
abbrev F48_E (k : Nat) : Env := env noTab noHint .own [] k
def F48 (k : Nat) (a0_0 : Int) (a0_1 : Int) (a0_2 : Int) : Option (Int × Int × Int) :=
  some (a0_0, a0_1, a0_2)
theorem F48_st {β : Type} (k : Nat) (a0_0 : Int) (a0_1 : Int) (a0_2 : Int) (K : A × List (List Leaf) → Option β) : evalF (F48_E k) Try.f48 [.agg [.l (.v (.int .i64 a0_0)), .l (.v (.int .i64 a0_1)), .l (.v (.int .i64 a0_2))]] K =
    K (.agg [.v (.int .i64 a0_0), .v (.int .i64 a0_1), .v (.int .i64 a0_2)], []) := by kernel_rfl
theorem F48_ev {β : Type} (k : Nat) (a0_0 : Int) (a0_1 : Int) (a0_2 : Int) (K : A × List (List Leaf) → Option β) : evalF (F48_E k) Try.f48 [.agg [.l (.v (.int .i64 a0_0)), .l (.v (.int .i64 a0_1)), .l (.v (.int .i64 a0_2))]] K = (F48 k a0_0 a0_1 a0_2).bind fun r => K (.agg [.v (.int .i64 r.1), .v (.int .i64 r.2.1), .v (.int .i64 r.2.2)], []) := by
  rw [F48_st, F48]
  simp only [bind_cond, Option.bind_assoc, Option.bind_some, Option.bind_none, Option.bind_fun_some]
theorem F48_con (k : Nat) (a0_0 : Int) (a0_1 : Int) (a0_2 : Int) : Contract Try.prog 48 [.agg [.l (.v (.int .i64 a0_0)), .l (.v (.int .i64 a0_1)), .l (.v (.int .i64 a0_2))]] ⟨F48 k a0_0 a0_1 a0_2, fun r => (.agg [.v (.int .i64 r.1), .v (.int .i64 r.2.1), .v (.int .i64 r.2.2)], [])⟩ :=
  con_of (envOk .none _ _ _ _) mixed Try.func48 rfl rfl (F48_ev k a0_0 a0_1 a0_2 some)
/-! 17: loop.example/netstack/laws.toPaceS -/
def F17_h : Nat → Hint
  | 0 => ⟨[(0, .plain), (3, .plain), (4, .plain)], [(7000, .plain)]⟩
  | _ => ⟨[], []⟩
def F17_t (k : Nat) : Tab
  | 48, [.agg [.l (.v (.int .i64 a0_0)), .l (.v (.int .i64 a0_1)), .l (.v (.int .i64 a0_2))]] => some ⟨F48 k a0_0 a0_1 a0_2, fun r => (.agg [.v (.int .i64 r.1), .v (.int .i64 r.2.1), .v (.int .i64 r.2.2)], [])⟩
  | _, _ => none
abbrev F17_E (k : Nat) : Env := env (F17_t k) F17_h .own [] k
def F17_s0 (a0 : List (den pace)) (x4_0 : Int) (m7000_0 : List (den pace)) : St := ⟨[.one (.s .ro pace a0), .one .d, .one .d, .one (.a (.cell 7000) 0 0 none), .one (.v (.int .i64 x4_0)), .one .d, .one .d, .one .d, .one .d, .one .d, .one .d, .one .d, .one .d, .one .d, .one .d, .one .d, .one .d, .one .d, .one .d, .one .d, .one .d, .one .d, .one .d], [(7000, ⟨.s .own pace m7000_0, 0, 0⟩)]⟩
def F17_l0 (k : Nat) (a0 : List (den pace)) : Nat → Int → List (den pace) → Option (List (den pace))
  | 0, _, _ => none
  | n + 1, x4_0, m7000_0 =>
    cond (decide (x4_0 < ((a0.length : Nat) : Int)))
      (cond (decide (0 ≤ x4_0))
        (cond (decide (x4_0 < ((a0.length : Nat) : Int)))
          ((F48 k ((atI a0 x4_0).1) (((atI a0 x4_0).2).1) (((atI a0 x4_0).2).2)).bind fun b1 =>
            cond (decide (0 ≤ x4_0))
              (cond (decide (x4_0 < ((m7000_0.length : Nat) : Int)))
                (F17_l0 k a0 n (IntKind.i64.wrap (x4_0 + 1)) (m7000_0.set x4_0.toNat b1))
                (none))
              (none))
          (none))
        (none))
      (some m7000_0)
theorem F17_l0_rd {β : Type} (k n : Nat) (a0 : List (den pace)) (x4_0 : Int) (m7000_0 : List (den pace)) (K : A × List (List Leaf) → Option β) :
    loopG (F17_E k) Try.f17 [1, 1, 0, 1, 0] 0 (kontAt (F17_E k) [1, 1, 0, 1, 0] (bodyOf Try.f17) 0 (endC (F17_E k) Try.f17 [.one (.l (.s .ro pace a0))] K)) (n + 1) (F17_s0 a0 x4_0 m7000_0) =
    cond (decide (x4_0 < ((a0.length : Nat) : Int)))
      (cond (decide (0 ≤ x4_0))
        (cond (decide (x4_0 < ((a0.length : Nat) : Int)))
          ((F48 k ((atI a0 x4_0).1) (((atI a0 x4_0).2).1) (((atI a0 x4_0).2).2)).bind fun b1 =>
            cond (decide (0 ≤ x4_0))
              (cond (decide (x4_0 < ((m7000_0.length : Nat) : Int)))
                (loopG (F17_E k) Try.f17 [1, 1, 0, 1, 0] 0 (kontAt (F17_E k) [1, 1, 0, 1, 0] (bodyOf Try.f17) 0 (endC (F17_E k) Try.f17 [.one (.l (.s .ro pace a0))] K)) n (F17_s0 a0 (IntKind.i64.wrap (x4_0 + 1)) (m7000_0.set x4_0.toNat b1)))
                (none))
              (none))
          (none))
        (none))
      (K (.one (.s .own pace m7000_0), [])) := by kernel_rfl
theorem F17_l0_lp {β : Type} (k : Nat) (a0 : List (den pace)) (K : A × List (List Leaf) → Option β) (n : Nat) : ∀ (x4_0 : Int) (m7000_0 : List (den pace)), loopG (F17_E k) Try.f17 [1, 1, 0, 1, 0] 0 (kontAt (F17_E k) [1, 1, 0, 1, 0] (bodyOf Try.f17) 0 (endC (F17_E k) Try.f17 [.one (.l (.s .ro pace a0))] K)) n (F17_s0 a0 x4_0 m7000_0) =
    (F17_l0 k a0 n x4_0 m7000_0).bind fun r => K (.one (.s .own pace r), []) := by
  induction n with
  | zero => intros; rfl
  | succ n ih =>
    intros
    rw [F17_l0_rd, F17_l0]
    simp only [bind_cond, Option.bind_assoc, Option.bind_some, Option.bind_none, Option.bind_fun_some, ih]
def F17 (k : Nat) (a0 : List (den pace)) : Option (List (den pace)) :=
  cond ((decide (0 ≤ ((a0.length : Nat) : Int)) && decide (((a0.length : Nat) : Int) = ((a0.length : Nat) : Int)) && decide (((a0.length : Nat) : Int) * (24 : Nat) ≤ 140737488355328)))
    (F17_l0 k a0 k 0 (List.replicate (((a0.length : Nat) : Int).toNat) (dflt pace)))
    (none)
theorem F17_st {β : Type} (k : Nat) (a0 : List (den pace)) (K : A × List (List Leaf) → Option β) : evalF (F17_E k) Try.f17 [.one (.l (.s .ro pace a0))] K =
    cond ((decide (0 ≤ ((a0.length : Nat) : Int)) && decide (((a0.length : Nat) : Int) = ((a0.length : Nat) : Int)) && decide (((a0.length : Nat) : Int) * (24 : Nat) ≤ 140737488355328)))
      (loopG (F17_E k) Try.f17 [1, 1, 0, 1, 0] 0 (kontAt (F17_E k) [1, 1, 0, 1, 0] (bodyOf Try.f17) 0 (endC (F17_E k) Try.f17 [.one (.l (.s .ro pace a0))] K)) k (F17_s0 a0 0 (List.replicate (((a0.length : Nat) : Int).toNat) (dflt pace))))
      (none) := by kernel_rfl
theorem F17_ev {β : Type} (k : Nat) (a0 : List (den pace)) (K : A × List (List Leaf) → Option β) : evalF (F17_E k) Try.f17 [.one (.l (.s .ro pace a0))] K = (F17 k a0).bind fun r => K (.one (.s .own pace r), []) := by
  rw [F17_st, F17]
  simp only [bind_cond, Option.bind_assoc, Option.bind_some, Option.bind_none, Option.bind_fun_some, F17_l0_lp]
theorem F17_tOk (k : Nat) : TabFn Try.prog (F17_t k) := by
  constructor <;> intro f xs cr h <;> unfold F17_t at h <;> split at h <;> first | (simp only [Option.some.injEq] at h; subst h) | (simp at h; done)
  · exact F48_con _ _ _ _
  · exact .of (by kernel_rfl)
theorem F17_con (k : Nat) (a0 : List (den pace)) : Contract Try.prog 17 [.one (.l (.s .ro pace a0))] ⟨F17 k a0, fun r => (.one (.s .own pace r), [])⟩ :=
  con_of (envOk (F17_tOk k) _ _ _ _) mixed Try.func17 rfl rfl (F17_ev k a0 some)
/-! 47: loop.example/netstack/spec.l1In -/
abbrev F47_E (k : Nat) : Env := env noTab noHint .own [] k
def F47 (k : Nat) (a0 : Int) (a1 : Int) (a2 : Int) : Option (Bool) :=
  cond (decide (a0 ≥ a1))
    (some (decide (a0 ≤ a2)))
    (some false)
theorem F47_st {β : Type} (k : Nat) (a0 : Int) (a1 : Int) (a2 : Int) (K : A × List (List Leaf) → Option β) : evalF (F47_E k) Try.f47 [.one (.l (.v (.int .i64 a0))), .one (.l (.v (.int .i64 a1))), .one (.l (.v (.int .i64 a2)))] K =
    cond (decide (a0 ≥ a1))
      (K (.one (.v (.bool (decide (a0 ≤ a2)))), []))
      (K (.one (.v (.bool false)), [])) := by kernel_rfl
theorem F47_ev {β : Type} (k : Nat) (a0 : Int) (a1 : Int) (a2 : Int) (K : A × List (List Leaf) → Option β) : evalF (F47_E k) Try.f47 [.one (.l (.v (.int .i64 a0))), .one (.l (.v (.int .i64 a1))), .one (.l (.v (.int .i64 a2)))] K = (F47 k a0 a1 a2).bind fun r => K (.one (.v (.bool r)), []) := by
  rw [F47_st, F47]
  simp only [bind_cond, Option.bind_assoc, Option.bind_some, Option.bind_none, Option.bind_fun_some]
theorem F47_con (k : Nat) (a0 : Int) (a1 : Int) (a2 : Int) : Contract Try.prog 47 [.one (.l (.v (.int .i64 a0))), .one (.l (.v (.int .i64 a1))), .one (.l (.v (.int .i64 a2)))] ⟨F47 k a0 a1 a2, fun r => (.one (.v (.bool r)), [])⟩ :=
  con_of (envOk .none _ _ _ _) mixed Try.func47 rfl rfl (F47_ev k a0 a1 a2 some)
/-! 46: loop.example/netstack/spec.PaceOk -/
def F46_t (k : Nat) : Tab
  | 47, [.one (.l (.v (.int .i64 a0))), .one (.l (.v (.int .i64 a1))), .one (.l (.v (.int .i64 a2)))] => some ⟨F47 k a0 a1 a2, fun r => (.one (.v (.bool r)), [])⟩
  | _, _ => none
abbrev F46_E (k : Nat) : Env := env (F46_t k) noHint .own [] k
def F46 (k : Nat) (a0_0 : Int) (a0_1 : Int) (a0_2 : Int) : Option (Bool) :=
  (F47 k a0_0 1 64).bind fun b1 =>
    cond (b1)
      ((F47 k a0_1 2 64).bind fun b2 =>
        cond (b2)
          ((F47 k a0_2 0 (IntKind.i64.wrap (a0_0 - 1))).bind fun b3 =>
            some b3)
          (some false))
      (some false)
theorem F46_st {β : Type} (k : Nat) (a0_0 : Int) (a0_1 : Int) (a0_2 : Int) (K : A × List (List Leaf) → Option β) : evalF (F46_E k) Try.f46 [.agg [.l (.v (.int .i64 a0_0)), .l (.v (.int .i64 a0_1)), .l (.v (.int .i64 a0_2))]] K =
    (F47 k a0_0 1 64).bind fun b1 =>
      cond (b1)
        ((F47 k a0_1 2 64).bind fun b2 =>
          cond (b2)
            ((F47 k a0_2 0 (IntKind.i64.wrap (a0_0 - 1))).bind fun b3 =>
              K (.one (.v (.bool b3)), []))
            (K (.one (.v (.bool false)), [])))
        (K (.one (.v (.bool false)), [])) := by kernel_rfl
theorem F46_ev {β : Type} (k : Nat) (a0_0 : Int) (a0_1 : Int) (a0_2 : Int) (K : A × List (List Leaf) → Option β) : evalF (F46_E k) Try.f46 [.agg [.l (.v (.int .i64 a0_0)), .l (.v (.int .i64 a0_1)), .l (.v (.int .i64 a0_2))]] K = (F46 k a0_0 a0_1 a0_2).bind fun r => K (.one (.v (.bool r)), []) := by
  rw [F46_st, F46]
  simp only [bind_cond, Option.bind_assoc, Option.bind_some, Option.bind_none, Option.bind_fun_some]
theorem F46_tOk (k : Nat) : TabFn Try.prog (F46_t k) := by
  constructor <;> intro f xs cr h <;> unfold F46_t at h <;> split at h <;> first | (simp only [Option.some.injEq] at h; subst h) | (simp at h; done)
  · exact F47_con _ _ _ _
  · exact .of (by kernel_rfl)
theorem F46_con (k : Nat) (a0_0 : Int) (a0_1 : Int) (a0_2 : Int) : Contract Try.prog 46 [.agg [.l (.v (.int .i64 a0_0)), .l (.v (.int .i64 a0_1)), .l (.v (.int .i64 a0_2))]] ⟨F46 k a0_0 a0_1 a0_2, fun r => (.one (.v (.bool r)), [])⟩ :=
  con_of (envOk (F46_tOk k) _ _ _ _) mixed Try.func46 rfl rfl (F46_ev k a0_0 a0_1 a0_2 some)
/-! 16: loop.example/netstack/spec.SharedOk -/
def F16_h : Nat → Hint
  | 0 => ⟨[(0, .plain), (3, .plain)], []⟩
  | _ => ⟨[], []⟩
def F16_t (k : Nat) : Tab
  | 46, [.agg [.l (.v (.int .i64 a0_0)), .l (.v (.int .i64 a0_1)), .l (.v (.int .i64 a0_2))]] => some ⟨F46 k a0_0 a0_1 a0_2, fun r => (.one (.v (.bool r)), [])⟩
  | 47, [.one (.l (.v (.int .i64 a0))), .one (.l (.v (.int .i64 a1))), .one (.l (.v (.int .i64 a2)))] => some ⟨F47 k a0 a1 a2, fun r => (.one (.v (.bool r)), [])⟩
  | _, _ => none
abbrev F16_E (k : Nat) : Env := env (F16_t k) F16_h .own [] k
def F16_s0 (a0 : List (den pace)) (x3_0 : Int) : St := ⟨[.one (.s .ro pace a0), .one .d, .one .d, .one (.v (.int .i64 x3_0)), .one .d, .one .d, .one .d, .one .d, .one .d, .one .d, .one .d, .one .d, .one .d, .one .d, .one .d, .one .d, .one .d, .one .d, .one .d], []⟩
def F16_l0 (k : Nat) (a0 : List (den pace)) : Nat → Int → Option (Bool)
  | 0, _ => none
  | n + 1, x3_0 =>
    cond (decide (x3_0 < ((a0.length : Nat) : Int)))
      (cond (decide (0 ≤ x3_0))
        (cond (decide (x3_0 < ((a0.length : Nat) : Int)))
          ((F46 k ((atI a0 x3_0).1) (((atI a0 x3_0).2).1) (((atI a0 x3_0).2).2)).bind fun b1 =>
            cond ((!b1))
              (some false)
              (F16_l0 k a0 n (IntKind.i64.wrap (x3_0 + 1))))
          (none))
        (none))
      ((F47 k ((a0.length : Nat) : Int) 1 5).bind fun b2 =>
        some b2)
theorem F16_l0_rd {β : Type} (k n : Nat) (a0 : List (den pace)) (x3_0 : Int) (K : A × List (List Leaf) → Option β) :
    loopG (F16_E k) Try.f16 [1, 0, 1, 0] 0 (kontAt (F16_E k) [1, 0, 1, 0] (bodyOf Try.f16) 0 (endC (F16_E k) Try.f16 [.one (.l (.s .ro pace a0))] K)) (n + 1) (F16_s0 a0 x3_0) =
    cond (decide (x3_0 < ((a0.length : Nat) : Int)))
      (cond (decide (0 ≤ x3_0))
        (cond (decide (x3_0 < ((a0.length : Nat) : Int)))
          ((F46 k ((atI a0 x3_0).1) (((atI a0 x3_0).2).1) (((atI a0 x3_0).2).2)).bind fun b1 =>
            cond ((!b1))
              (K (.one (.v (.bool false)), []))
              (loopG (F16_E k) Try.f16 [1, 0, 1, 0] 0 (kontAt (F16_E k) [1, 0, 1, 0] (bodyOf Try.f16) 0 (endC (F16_E k) Try.f16 [.one (.l (.s .ro pace a0))] K)) n (F16_s0 a0 (IntKind.i64.wrap (x3_0 + 1)))))
          (none))
        (none))
      ((F47 k ((a0.length : Nat) : Int) 1 5).bind fun b2 =>
        K (.one (.v (.bool b2)), [])) := by kernel_rfl
theorem F16_l0_lp {β : Type} (k : Nat) (a0 : List (den pace)) (K : A × List (List Leaf) → Option β) (n : Nat) : ∀ (x3_0 : Int), loopG (F16_E k) Try.f16 [1, 0, 1, 0] 0 (kontAt (F16_E k) [1, 0, 1, 0] (bodyOf Try.f16) 0 (endC (F16_E k) Try.f16 [.one (.l (.s .ro pace a0))] K)) n (F16_s0 a0 x3_0) =
    (F16_l0 k a0 n x3_0).bind fun r => K (.one (.v (.bool r)), []) := by
  induction n with
  | zero => intros; rfl
  | succ n ih =>
    intros
    rw [F16_l0_rd, F16_l0]
    simp only [bind_cond, Option.bind_assoc, Option.bind_some, Option.bind_none, Option.bind_fun_some, ih]
def F16 (k : Nat) (a0 : List (den pace)) : Option (Bool) :=
  F16_l0 k a0 k 0
theorem F16_st {β : Type} (k : Nat) (a0 : List (den pace)) (K : A × List (List Leaf) → Option β) : evalF (F16_E k) Try.f16 [.one (.l (.s .ro pace a0))] K =
    loopG (F16_E k) Try.f16 [1, 0, 1, 0] 0 (kontAt (F16_E k) [1, 0, 1, 0] (bodyOf Try.f16) 0 (endC (F16_E k) Try.f16 [.one (.l (.s .ro pace a0))] K)) k (F16_s0 a0 0) := by kernel_rfl
theorem F16_ev {β : Type} (k : Nat) (a0 : List (den pace)) (K : A × List (List Leaf) → Option β) : evalF (F16_E k) Try.f16 [.one (.l (.s .ro pace a0))] K = (F16 k a0).bind fun r => K (.one (.v (.bool r)), []) := by
  rw [F16_st, F16]
  simp only [bind_cond, Option.bind_assoc, Option.bind_some, Option.bind_none, Option.bind_fun_some, F16_l0_lp]
theorem F16_tOk (k : Nat) : TabFn Try.prog (F16_t k) := by
  constructor <;> intro f xs cr h <;> unfold F16_t at h <;> split at h <;> first | (simp only [Option.some.injEq] at h; subst h) | (simp at h; done)
  · exact F46_con _ _ _ _
  · exact F47_con _ _ _ _
  · exact .of (by kernel_rfl)
  · exact .of (by kernel_rfl)
theorem F16_con (k : Nat) (a0 : List (den pace)) : Contract Try.prog 16 [.one (.l (.s .ro pace a0))] ⟨F16 k a0, fun r => (.one (.v (.bool r)), [])⟩ :=
  con_of (envOk (F16_tOk k) _ _ _ _) mixed Try.func16 rfl rfl (F16_ev k a0 some)
/-! 49: loop.example/netstack/impl.in -/
abbrev F49_E (k : Nat) : Env := env noTab noHint .own [] k
def F49 (k : Nat) (a0 : Int) (a1 : Int) (a2 : Int) : Option (Bool) :=
  cond (decide (a0 ≥ a1))
    (some (decide (a0 ≤ a2)))
    (some false)
theorem F49_st {β : Type} (k : Nat) (a0 : Int) (a1 : Int) (a2 : Int) (K : A × List (List Leaf) → Option β) : evalF (F49_E k) Try.f49 [.one (.l (.v (.int .i64 a0))), .one (.l (.v (.int .i64 a1))), .one (.l (.v (.int .i64 a2)))] K =
    cond (decide (a0 ≥ a1))
      (K (.one (.v (.bool (decide (a0 ≤ a2)))), []))
      (K (.one (.v (.bool false)), [])) := by kernel_rfl
theorem F49_ev {β : Type} (k : Nat) (a0 : Int) (a1 : Int) (a2 : Int) (K : A × List (List Leaf) → Option β) : evalF (F49_E k) Try.f49 [.one (.l (.v (.int .i64 a0))), .one (.l (.v (.int .i64 a1))), .one (.l (.v (.int .i64 a2)))] K = (F49 k a0 a1 a2).bind fun r => K (.one (.v (.bool r)), []) := by
  rw [F49_st, F49]
  simp only [bind_cond, Option.bind_assoc, Option.bind_some, Option.bind_none, Option.bind_fun_some]
theorem F49_con (k : Nat) (a0 : Int) (a1 : Int) (a2 : Int) : Contract Try.prog 49 [.one (.l (.v (.int .i64 a0))), .one (.l (.v (.int .i64 a1))), .one (.l (.v (.int .i64 a2)))] ⟨F49 k a0 a1 a2, fun r => (.one (.v (.bool r)), [])⟩ :=
  con_of (envOk .none _ _ _ _) mixed Try.func49 rfl rfl (F49_ev k a0 a1 a2 some)
/-! 52: loop.example/netstack/impl.PaceOk -/
def F52_t (k : Nat) : Tab
  | 49, [.one (.l (.v (.int .i64 a0))), .one (.l (.v (.int .i64 a1))), .one (.l (.v (.int .i64 a2)))] => some ⟨F49 k a0 a1 a2, fun r => (.one (.v (.bool r)), [])⟩
  | _, _ => none
abbrev F52_E (k : Nat) : Env := env (F52_t k) noHint .own [] k
def F52 (k : Nat) (a0_0 : Int) (a0_1 : Int) (a0_2 : Int) : Option (Bool) :=
  (F49 k a0_0 1 64).bind fun b1 =>
    cond (b1)
      ((F49 k a0_1 2 64).bind fun b2 =>
        cond (b2)
          ((F49 k a0_2 0 (IntKind.i64.wrap (a0_0 - 1))).bind fun b3 =>
            some b3)
          (some false))
      (some false)
theorem F52_st {β : Type} (k : Nat) (a0_0 : Int) (a0_1 : Int) (a0_2 : Int) (K : A × List (List Leaf) → Option β) : evalF (F52_E k) Try.f52 [.agg [.l (.v (.int .i64 a0_0)), .l (.v (.int .i64 a0_1)), .l (.v (.int .i64 a0_2))]] K =
    (F49 k a0_0 1 64).bind fun b1 =>
      cond (b1)
        ((F49 k a0_1 2 64).bind fun b2 =>
          cond (b2)
            ((F49 k a0_2 0 (IntKind.i64.wrap (a0_0 - 1))).bind fun b3 =>
              K (.one (.v (.bool b3)), []))
            (K (.one (.v (.bool false)), [])))
        (K (.one (.v (.bool false)), [])) := by kernel_rfl
theorem F52_ev {β : Type} (k : Nat) (a0_0 : Int) (a0_1 : Int) (a0_2 : Int) (K : A × List (List Leaf) → Option β) : evalF (F52_E k) Try.f52 [.agg [.l (.v (.int .i64 a0_0)), .l (.v (.int .i64 a0_1)), .l (.v (.int .i64 a0_2))]] K = (F52 k a0_0 a0_1 a0_2).bind fun r => K (.one (.v (.bool r)), []) := by
  rw [F52_st, F52]
  simp only [bind_cond, Option.bind_assoc, Option.bind_some, Option.bind_none, Option.bind_fun_some]
theorem F52_tOk (k : Nat) : TabFn Try.prog (F52_t k) := by
  constructor <;> intro f xs cr h <;> unfold F52_t at h <;> split at h <;> first | (simp only [Option.some.injEq] at h; subst h) | (simp at h; done)
  · exact F49_con _ _ _ _
  · exact .of (by kernel_rfl)
theorem F52_con (k : Nat) (a0_0 : Int) (a0_1 : Int) (a0_2 : Int) : Contract Try.prog 52 [.agg [.l (.v (.int .i64 a0_0)), .l (.v (.int .i64 a0_1)), .l (.v (.int .i64 a0_2))]] ⟨F52 k a0_0 a0_1 a0_2, fun r => (.one (.v (.bool r)), [])⟩ :=
  con_of (envOk (F52_tOk k) _ _ _ _) mixed Try.func52 rfl rfl (F52_ev k a0_0 a0_1 a0_2 some)
/-! 51: loop.example/netstack/impl.SharedOk$1 -/
def F51_t (k : Nat) : Tab
  | 52, [.agg [.l (.v (.int .i64 a0_0)), .l (.v (.int .i64 a0_1)), .l (.v (.int .i64 a0_2))]] => some ⟨F52 k a0_0 a0_1 a0_2, fun r => (.one (.v (.bool r)), [])⟩
  | _, _ => none
abbrev F51_E (k : Nat) : Env := env (F51_t k) noHint .own [] k
def F51 (k : Nat) (a0_0 : Int) (a0_1 : Int) (a0_2 : Int) : Option (Bool) :=
  (F52 k a0_0 a0_1 a0_2).bind fun b1 =>
    some (!b1)
theorem F51_st {β : Type} (k : Nat) (a0_0 : Int) (a0_1 : Int) (a0_2 : Int) (K : A × List (List Leaf) → Option β) : evalF (F51_E k) Try.f51 [.agg [.l (.v (.int .i64 a0_0)), .l (.v (.int .i64 a0_1)), .l (.v (.int .i64 a0_2))]] K =
    (F52 k a0_0 a0_1 a0_2).bind fun b1 =>
      K (.one (.v (.bool (!b1))), []) := by kernel_rfl
theorem F51_ev {β : Type} (k : Nat) (a0_0 : Int) (a0_1 : Int) (a0_2 : Int) (K : A × List (List Leaf) → Option β) : evalF (F51_E k) Try.f51 [.agg [.l (.v (.int .i64 a0_0)), .l (.v (.int .i64 a0_1)), .l (.v (.int .i64 a0_2))]] K = (F51 k a0_0 a0_1 a0_2).bind fun r => K (.one (.v (.bool r)), []) := by
  rw [F51_st, F51]
  simp only [bind_cond, Option.bind_assoc, Option.bind_some, Option.bind_none, Option.bind_fun_some]
theorem F51_tOk (k : Nat) : TabFn Try.prog (F51_t k) := by
  constructor <;> intro f xs cr h <;> unfold F51_t at h <;> split at h <;> first | (simp only [Option.some.injEq] at h; subst h) | (simp at h; done)
  · exact F52_con _ _ _ _
  · exact .of (by kernel_rfl)
theorem F51_con (k : Nat) (a0_0 : Int) (a0_1 : Int) (a0_2 : Int) : Contract Try.prog 51 [.agg [.l (.v (.int .i64 a0_0)), .l (.v (.int .i64 a0_1)), .l (.v (.int .i64 a0_2))]] ⟨F51 k a0_0 a0_1 a0_2, fun r => (.one (.v (.bool r)), [])⟩ :=
  con_of (envOk (F51_tOk k) _ _ _ _) mixed Try.func51 rfl rfl (F51_ev k a0_0 a0_1 a0_2 some)
/-! 80: slices.IndexFunc[[]loop.example/netstack/impl.Pace,loop.example/netstack/impl.Pace] -/
def F80_h : Nat → Hint
  | 0 => ⟨[(0, .plain), (1, .plain), (7, .plain), (8, .plain)], []⟩
  | _ => ⟨[], []⟩
def F80_t (k : Nat) : Tab
  | 51, [.agg [.l (.v (.int .i64 a0_0)), .l (.v (.int .i64 a0_1)), .l (.v (.int .i64 a0_2))]] => some ⟨F51 k a0_0 a0_1 a0_2, fun r => (.one (.v (.bool r)), [])⟩
  | _, _ => none
abbrev F80_E (k : Nat) : Env := env (F80_t k) F80_h .own [] k
def F80_s0 (a0 : List (den pace)) (x8_0 : Int) : St := ⟨[.one (.s .ro pace a0), .one (.fn 51 []), .one .d, .one .d, .one .d, .one .d, .one .d, .one (.v (.int .i64 ((a0.length : Nat) : Int))), .one (.v (.int .i64 x8_0)), .one .d, .one .d, .one .d, .one .d, .one .d, .one .d, .one .d, .one .d, .one .d, .one .d], []⟩
def F80_l0 (k : Nat) (a0 : List (den pace)) : Nat → Int → Option (Int)
  | 0, _ => none
  | n + 1, x8_0 =>
    cond (decide (x8_0 < ((a0.length : Nat) : Int)))
      (cond (decide (0 ≤ x8_0))
        (cond (decide (x8_0 < ((a0.length : Nat) : Int)))
          ((F51 k ((atI a0 x8_0).1) (((atI a0 x8_0).2).1) (((atI a0 x8_0).2).2)).bind fun b1 =>
            cond (b1)
              (some x8_0)
              (F80_l0 k a0 n (IntKind.i64.wrap (x8_0 + 1))))
          (none))
        (none))
      (some (-1))
theorem F80_l0_rd {β : Type} (k n : Nat) (a0 : List (den pace)) (x8_0 : Int) (K : A × List (List Leaf) → Option β) :
    loopG (F80_E k) Try.f80 [1, 0, 1, 0] 0 (kontAt (F80_E k) [1, 0, 1, 0] (bodyOf Try.f80) 0 (endC (F80_E k) Try.f80 [.one (.l (.s .ro pace a0)), .one (.fn 51 [])] K)) (n + 1) (F80_s0 a0 x8_0) =
    cond (decide (x8_0 < ((a0.length : Nat) : Int)))
      (cond (decide (0 ≤ x8_0))
        (cond (decide (x8_0 < ((a0.length : Nat) : Int)))
          ((F51 k ((atI a0 x8_0).1) (((atI a0 x8_0).2).1) (((atI a0 x8_0).2).2)).bind fun b1 =>
            cond (b1)
              (K (.one (.v (.int .i64 x8_0)), []))
              (loopG (F80_E k) Try.f80 [1, 0, 1, 0] 0 (kontAt (F80_E k) [1, 0, 1, 0] (bodyOf Try.f80) 0 (endC (F80_E k) Try.f80 [.one (.l (.s .ro pace a0)), .one (.fn 51 [])] K)) n (F80_s0 a0 (IntKind.i64.wrap (x8_0 + 1)))))
          (none))
        (none))
      (K (.one (.v (.int .i64 (-1))), [])) := by kernel_rfl
theorem F80_l0_lp {β : Type} (k : Nat) (a0 : List (den pace)) (K : A × List (List Leaf) → Option β) (n : Nat) : ∀ (x8_0 : Int), loopG (F80_E k) Try.f80 [1, 0, 1, 0] 0 (kontAt (F80_E k) [1, 0, 1, 0] (bodyOf Try.f80) 0 (endC (F80_E k) Try.f80 [.one (.l (.s .ro pace a0)), .one (.fn 51 [])] K)) n (F80_s0 a0 x8_0) =
    (F80_l0 k a0 n x8_0).bind fun r => K (.one (.v (.int .i64 r)), []) := by
  induction n with
  | zero => intros; rfl
  | succ n ih =>
    intros
    rw [F80_l0_rd, F80_l0]
    simp only [bind_cond, Option.bind_assoc, Option.bind_some, Option.bind_none, Option.bind_fun_some, ih]
def F80 (k : Nat) (a0 : List (den pace)) : Option (Int) :=
  F80_l0 k a0 k 0
theorem F80_st {β : Type} (k : Nat) (a0 : List (den pace)) (K : A × List (List Leaf) → Option β) : evalF (F80_E k) Try.f80 [.one (.l (.s .ro pace a0)), .one (.fn 51 [])] K =
    loopG (F80_E k) Try.f80 [1, 0, 1, 0] 0 (kontAt (F80_E k) [1, 0, 1, 0] (bodyOf Try.f80) 0 (endC (F80_E k) Try.f80 [.one (.l (.s .ro pace a0)), .one (.fn 51 [])] K)) k (F80_s0 a0 0) := by kernel_rfl
theorem F80_ev {β : Type} (k : Nat) (a0 : List (den pace)) (K : A × List (List Leaf) → Option β) : evalF (F80_E k) Try.f80 [.one (.l (.s .ro pace a0)), .one (.fn 51 [])] K = (F80 k a0).bind fun r => K (.one (.v (.int .i64 r)), []) := by
  rw [F80_st, F80]
  simp only [bind_cond, Option.bind_assoc, Option.bind_some, Option.bind_none, Option.bind_fun_some, F80_l0_lp]
theorem F80_tOk (k : Nat) : TabFn Try.prog (F80_t k) := by
  constructor <;> intro f xs cr h <;> unfold F80_t at h <;> split at h <;> first | (simp only [Option.some.injEq] at h; subst h) | (simp at h; done)
  · exact F51_con _ _ _ _
  · exact .of (by kernel_rfl)
theorem F80_con (k : Nat) (a0 : List (den pace)) : Contract Try.prog 80 [.one (.l (.s .ro pace a0)), .one (.fn 51 [])] ⟨F80 k a0, fun r => (.one (.v (.int .i64 r)), [])⟩ :=
  con_of (envOk (F80_tOk k) _ _ _ _) mixed Try.func80 rfl rfl (F80_ev k a0 some)
/-! 50: slices.ContainsFunc[[]loop.example/netstack/impl.Pace,loop.example/netstack/impl.Pace] -/
def F50_t (k : Nat) : Tab
  | 80, [.one (.l (.s .ro (.pair (.int .i64) (.pair (.int .i64) (.int .i64))) a0)), .one (.fn 51 [])] => some ⟨F80 k a0, fun r => (.one (.v (.int .i64 r)), [])⟩
  | _, _ => none
abbrev F50_E (k : Nat) : Env := env (F50_t k) noHint .own [] k
def F50 (k : Nat) (a0 : List (den pace)) : Option (Bool) :=
  (F80 k a0).bind fun b1 =>
    some (decide (b1 ≥ 0))
theorem F50_st {β : Type} (k : Nat) (a0 : List (den pace)) (K : A × List (List Leaf) → Option β) : evalF (F50_E k) Try.f50 [.one (.l (.s .ro pace a0)), .one (.fn 51 [])] K =
    (F80 k a0).bind fun b1 =>
      K (.one (.v (.bool (decide (b1 ≥ 0)))), []) := by kernel_rfl
theorem F50_ev {β : Type} (k : Nat) (a0 : List (den pace)) (K : A × List (List Leaf) → Option β) : evalF (F50_E k) Try.f50 [.one (.l (.s .ro pace a0)), .one (.fn 51 [])] K = (F50 k a0).bind fun r => K (.one (.v (.bool r)), []) := by
  rw [F50_st, F50]
  simp only [bind_cond, Option.bind_assoc, Option.bind_some, Option.bind_none, Option.bind_fun_some]
theorem F50_tOk (k : Nat) : TabFn Try.prog (F50_t k) := by
  constructor <;> intro f xs cr h <;> unfold F50_t at h <;> split at h <;> first | (simp only [Option.some.injEq] at h; subst h) | (simp at h; done)
  · exact F80_con _ _
  · exact .of (by kernel_rfl)
theorem F50_con (k : Nat) (a0 : List (den pace)) : Contract Try.prog 50 [.one (.l (.s .ro pace a0)), .one (.fn 51 [])] ⟨F50 k a0, fun r => (.one (.v (.bool r)), [])⟩ :=
  con_of (envOk (F50_tOk k) _ _ _ _) mixed Try.func50 rfl rfl (F50_ev k a0 some)
/-! 18: loop.example/netstack/impl.SharedOk -/
def F18_t (k : Nat) : Tab
  | 49, [.one (.l (.v (.int .i64 a0))), .one (.l (.v (.int .i64 a1))), .one (.l (.v (.int .i64 a2)))] => some ⟨F49 k a0 a1 a2, fun r => (.one (.v (.bool r)), [])⟩
  | 50, [.one (.l (.s .ro (.pair (.int .i64) (.pair (.int .i64) (.int .i64))) a0)), .one (.fn 51 [])] => some ⟨F50 k a0, fun r => (.one (.v (.bool r)), [])⟩
  | _, _ => none
abbrev F18_E (k : Nat) : Env := env (F18_t k) noHint .own [] k
def F18 (k : Nat) (a0 : List (den pace)) : Option (Bool) :=
  (F49 k ((a0.length : Nat) : Int) 1 5).bind fun b1 =>
    cond (b1)
      ((F50 k a0).bind fun b2 =>
        some (!b2))
      (some false)
theorem F18_st {β : Type} (k : Nat) (a0 : List (den pace)) (K : A × List (List Leaf) → Option β) : evalF (F18_E k) Try.f18 [.one (.l (.s .ro pace a0))] K =
    (F49 k ((a0.length : Nat) : Int) 1 5).bind fun b1 =>
      cond (b1)
        ((F50 k a0).bind fun b2 =>
          K (.one (.v (.bool (!b2))), []))
        (K (.one (.v (.bool false)), [])) := by kernel_rfl
theorem F18_ev {β : Type} (k : Nat) (a0 : List (den pace)) (K : A × List (List Leaf) → Option β) : evalF (F18_E k) Try.f18 [.one (.l (.s .ro pace a0))] K = (F18 k a0).bind fun r => K (.one (.v (.bool r)), []) := by
  rw [F18_st, F18]
  simp only [bind_cond, Option.bind_assoc, Option.bind_some, Option.bind_none, Option.bind_fun_some]
theorem F18_tOk (k : Nat) : TabFn Try.prog (F18_t k) := by
  constructor <;> intro f xs cr h <;> unfold F18_t at h <;> split at h <;> first | (simp only [Option.some.injEq] at h; subst h) | (simp at h; done)
  · exact F49_con _ _ _ _
  · exact F50_con _ _
  · exact .of (by kernel_rfl)
  · exact .of (by kernel_rfl)
theorem F18_con (k : Nat) (a0 : List (den pace)) : Contract Try.prog 18 [.one (.l (.s .ro pace a0))] ⟨F18 k a0, fun r => (.one (.v (.bool r)), [])⟩ :=
  con_of (envOk (F18_tOk k) _ _ _ _) mixed Try.func18 rfl rfl (F18_ev k a0 some)
/-! 53: loop.example/netstack/laws.eqPace -/
abbrev F53_E (k : Nat) : Env := env noTab noHint .own [] k
def F53 (k : Nat) (a0_0 : Int) (a0_1 : Int) (a0_2 : Int) (a1_0 : Int) (a1_1 : Int) (a1_2 : Int) : Option (Bool) :=
  cond ((a0_0 != a1_0))
    (some false)
    (cond ((a0_1 != a1_1))
      (some false)
      (cond ((a0_2 != a1_2))
        (some false)
        (some true)))
theorem F53_st {β : Type} (k : Nat) (a0_0 : Int) (a0_1 : Int) (a0_2 : Int) (a1_0 : Int) (a1_1 : Int) (a1_2 : Int) (K : A × List (List Leaf) → Option β) : evalF (F53_E k) Try.f53 [.agg [.l (.v (.int .i64 a0_0)), .l (.v (.int .i64 a0_1)), .l (.v (.int .i64 a0_2))], .agg [.l (.v (.int .i64 a1_0)), .l (.v (.int .i64 a1_1)), .l (.v (.int .i64 a1_2))]] K =
    cond ((a0_0 != a1_0))
      (K (.one (.v (.bool false)), []))
      (cond ((a0_1 != a1_1))
        (K (.one (.v (.bool false)), []))
        (cond ((a0_2 != a1_2))
          (K (.one (.v (.bool false)), []))
          (K (.one (.v (.bool true)), [])))) := by kernel_rfl
theorem F53_ev {β : Type} (k : Nat) (a0_0 : Int) (a0_1 : Int) (a0_2 : Int) (a1_0 : Int) (a1_1 : Int) (a1_2 : Int) (K : A × List (List Leaf) → Option β) : evalF (F53_E k) Try.f53 [.agg [.l (.v (.int .i64 a0_0)), .l (.v (.int .i64 a0_1)), .l (.v (.int .i64 a0_2))], .agg [.l (.v (.int .i64 a1_0)), .l (.v (.int .i64 a1_1)), .l (.v (.int .i64 a1_2))]] K = (F53 k a0_0 a0_1 a0_2 a1_0 a1_1 a1_2).bind fun r => K (.one (.v (.bool r)), []) := by
  rw [F53_st, F53]
  simp only [bind_cond, Option.bind_assoc, Option.bind_some, Option.bind_none, Option.bind_fun_some]
theorem F53_con (k : Nat) (a0_0 : Int) (a0_1 : Int) (a0_2 : Int) (a1_0 : Int) (a1_1 : Int) (a1_2 : Int) : Contract Try.prog 53 [.agg [.l (.v (.int .i64 a0_0)), .l (.v (.int .i64 a0_1)), .l (.v (.int .i64 a0_2))], .agg [.l (.v (.int .i64 a1_0)), .l (.v (.int .i64 a1_1)), .l (.v (.int .i64 a1_2))]] ⟨F53 k a0_0 a0_1 a0_2 a1_0 a1_1 a1_2, fun r => (.one (.v (.bool r)), [])⟩ :=
  con_of (envOk .none _ _ _ _) mixed Try.func53 rfl rfl (F53_ev k a0_0 a0_1 a0_2 a1_0 a1_1 a1_2 some)
/-! 19: loop.example/netstack/laws.eqPaceS -/
def F19_h : Nat → Hint
  | 0 => ⟨[(0, .plain), (1, .plain), (5, .plain)], []⟩
  | _ => ⟨[], []⟩
def F19_t (k : Nat) : Tab
  | 53, [.agg [.l (.v (.int .i64 a0_0)), .l (.v (.int .i64 a0_1)), .l (.v (.int .i64 a0_2))], .agg [.l (.v (.int .i64 a1_0)), .l (.v (.int .i64 a1_1)), .l (.v (.int .i64 a1_2))]] => some ⟨F53 k a0_0 a0_1 a0_2 a1_0 a1_1 a1_2, fun r => (.one (.v (.bool r)), [])⟩
  | _, _ => none
abbrev F19_E (k : Nat) : Env := env (F19_t k) F19_h .own [] k
def F19_s0 (a0 : List (den pace)) (a1 : List (den pace)) (x5_0 : Int) : St := ⟨[.one (.s .ro pace a0), .one (.s .ro pace a1), .one .d, .one .d, .one .d, .one (.v (.int .i64 x5_0)), .one .d, .one .d, .one .d, .one .d, .one .d, .one .d, .one .d, .one .d, .one .d, .one .d, .one .d, .one .d, .one .d, .one .d, .one .d, .one .d, .one .d, .one .d, .one .d, .one .d, .one .d], []⟩
def F19_l0 (k : Nat) (a0 : List (den pace)) (a1 : List (den pace)) : Nat → Int → Option (Bool)
  | 0, _ => none
  | n + 1, x5_0 =>
    cond (decide (x5_0 < ((a0.length : Nat) : Int)))
      (cond (decide (0 ≤ x5_0))
        (cond (decide (x5_0 < ((a0.length : Nat) : Int)))
          (cond (decide (0 ≤ x5_0))
            (cond (decide (x5_0 < ((a1.length : Nat) : Int)))
              ((F53 k ((atI a0 x5_0).1) (((atI a0 x5_0).2).1) (((atI a0 x5_0).2).2) ((atI a1 x5_0).1) (((atI a1 x5_0).2).1) (((atI a1 x5_0).2).2)).bind fun b1 =>
                cond ((!b1))
                  (some false)
                  (F19_l0 k a0 a1 n (IntKind.i64.wrap (x5_0 + 1))))
              (none))
            (none))
          (none))
        (none))
      (some true)
theorem F19_l0_rd {β : Type} (k n : Nat) (a0 : List (den pace)) (a1 : List (den pace)) (x5_0 : Int) (K : A × List (List Leaf) → Option β) :
    loopG (F19_E k) Try.f19 [1, 1, 0, 1, 0] 0 (kontAt (F19_E k) [1, 1, 0, 1, 0] (bodyOf Try.f19) 0 (endC (F19_E k) Try.f19 [.one (.l (.s .ro pace a0)), .one (.l (.s .ro pace a1))] K)) (n + 1) (F19_s0 a0 a1 x5_0) =
    cond (decide (x5_0 < ((a0.length : Nat) : Int)))
      (cond (decide (0 ≤ x5_0))
        (cond (decide (x5_0 < ((a0.length : Nat) : Int)))
          (cond (decide (0 ≤ x5_0))
            (cond (decide (x5_0 < ((a1.length : Nat) : Int)))
              ((F53 k ((atI a0 x5_0).1) (((atI a0 x5_0).2).1) (((atI a0 x5_0).2).2) ((atI a1 x5_0).1) (((atI a1 x5_0).2).1) (((atI a1 x5_0).2).2)).bind fun b1 =>
                cond ((!b1))
                  (K (.one (.v (.bool false)), []))
                  (loopG (F19_E k) Try.f19 [1, 1, 0, 1, 0] 0 (kontAt (F19_E k) [1, 1, 0, 1, 0] (bodyOf Try.f19) 0 (endC (F19_E k) Try.f19 [.one (.l (.s .ro pace a0)), .one (.l (.s .ro pace a1))] K)) n (F19_s0 a0 a1 (IntKind.i64.wrap (x5_0 + 1)))))
              (none))
            (none))
          (none))
        (none))
      (K (.one (.v (.bool true)), [])) := by kernel_rfl
theorem F19_l0_lp {β : Type} (k : Nat) (a0 : List (den pace)) (a1 : List (den pace)) (K : A × List (List Leaf) → Option β) (n : Nat) : ∀ (x5_0 : Int), loopG (F19_E k) Try.f19 [1, 1, 0, 1, 0] 0 (kontAt (F19_E k) [1, 1, 0, 1, 0] (bodyOf Try.f19) 0 (endC (F19_E k) Try.f19 [.one (.l (.s .ro pace a0)), .one (.l (.s .ro pace a1))] K)) n (F19_s0 a0 a1 x5_0) =
    (F19_l0 k a0 a1 n x5_0).bind fun r => K (.one (.v (.bool r)), []) := by
  induction n with
  | zero => intros; rfl
  | succ n ih =>
    intros
    rw [F19_l0_rd, F19_l0]
    simp only [bind_cond, Option.bind_assoc, Option.bind_some, Option.bind_none, Option.bind_fun_some, ih]
def F19 (k : Nat) (a0 : List (den pace)) (a1 : List (den pace)) : Option (Bool) :=
  cond ((((a0.length : Nat) : Int) != ((a1.length : Nat) : Int)))
    (some false)
    (F19_l0 k a0 a1 k 0)
theorem F19_st {β : Type} (k : Nat) (a0 : List (den pace)) (a1 : List (den pace)) (K : A × List (List Leaf) → Option β) : evalF (F19_E k) Try.f19 [.one (.l (.s .ro pace a0)), .one (.l (.s .ro pace a1))] K =
    cond ((((a0.length : Nat) : Int) != ((a1.length : Nat) : Int)))
      (K (.one (.v (.bool false)), []))
      (loopG (F19_E k) Try.f19 [1, 1, 0, 1, 0] 0 (kontAt (F19_E k) [1, 1, 0, 1, 0] (bodyOf Try.f19) 0 (endC (F19_E k) Try.f19 [.one (.l (.s .ro pace a0)), .one (.l (.s .ro pace a1))] K)) k (F19_s0 a0 a1 0)) := by kernel_rfl
theorem F19_ev {β : Type} (k : Nat) (a0 : List (den pace)) (a1 : List (den pace)) (K : A × List (List Leaf) → Option β) : evalF (F19_E k) Try.f19 [.one (.l (.s .ro pace a0)), .one (.l (.s .ro pace a1))] K = (F19 k a0 a1).bind fun r => K (.one (.v (.bool r)), []) := by
  rw [F19_st, F19]
  simp only [bind_cond, Option.bind_assoc, Option.bind_some, Option.bind_none, Option.bind_fun_some, F19_l0_lp]
theorem F19_tOk (k : Nat) : TabFn Try.prog (F19_t k) := by
  constructor <;> intro f xs cr h <;> unfold F19_t at h <;> split at h <;> first | (simp only [Option.some.injEq] at h; subst h) | (simp at h; done)
  · exact F53_con _ _ _ _ _ _ _
  · exact .of (by kernel_rfl)
theorem F19_con (k : Nat) (a0 : List (den pace)) (a1 : List (den pace)) : Contract Try.prog 19 [.one (.l (.s .ro pace a0)), .one (.l (.s .ro pace a1))] ⟨F19 k a0 a1, fun r => (.one (.v (.bool r)), [])⟩ :=
  con_of (envOk (F19_tOk k) _ _ _ _) mixed Try.func19 rfl rfl (F19_ev k a0 a1 some)
/-! 3: loop.example/netstack/laws.FnExactSharedOk -/
def F3_t (k : Nat) : Tab
  | 15, [.one (.l (.s .ro (.pair (.int .i64) (.pair (.int .i64) (.int .i64))) a0)), .one (.l (.v (.int .i64 a1)))] => some ⟨F15 k a0 a1, fun r => (.one (.v (.int .i64 r)), [])⟩
  | 17, [.one (.l (.s .ro (.pair (.int .i64) (.pair (.int .i64) (.int .i64))) a0))] => some ⟨F17 k a0, fun r => (.one (.s .own pace r), [])⟩
  | 16, [.one (.l (.s .ro (.pair (.int .i64) (.pair (.int .i64) (.int .i64))) a0))] => some ⟨F16 k a0, fun r => (.one (.v (.bool r)), [])⟩
  | 18, [.one (.l (.s .ro (.pair (.int .i64) (.pair (.int .i64) (.int .i64))) a0))] => some ⟨F18 k a0, fun r => (.one (.v (.bool r)), [])⟩
  | 19, [.one (.l (.s .ro (.pair (.int .i64) (.pair (.int .i64) (.int .i64))) a0)), .one (.l (.s .ro (.pair (.int .i64) (.pair (.int .i64) (.int .i64))) a1))] => some ⟨F19 k a0 a1, fun r => (.one (.v (.bool r)), [])⟩
  | _, _ => none
abbrev F3_E (k : Nat) : Env := env (F3_t k) noHint .own [] k
def F3 (k : Nat) (a0 : List (den pace)) : Option (Bool) :=
  (F15 k a0 1048576).bind fun b1 =>
    cond (decide (b1 < 0))
      (some true)
      ((F17 k a0).bind fun b2 =>
        (F16 k b2).bind fun b3 =>
          (F17 k a0).bind fun b4 =>
            (F18 k b4).bind fun b5 =>
              cond ((!(b5 == b3)))
                (some false)
                ((F17 k a0).bind fun b6 =>
                  (F19 k b4 b6).bind fun b7 =>
                    cond ((!b7))
                      (some false)
                      (some true)))
theorem F3_st {β : Type} (k : Nat) (a0 : List (den pace)) (K : A × List (List Leaf) → Option β) : evalF (F3_E k) Try.f3 [.one (.l (.s .ro pace a0))] K =
    (F15 k a0 1048576).bind fun b1 =>
      cond (decide (b1 < 0))
        (K (.one (.v (.bool true)), []))
        ((F17 k a0).bind fun b2 =>
          (F16 k b2).bind fun b3 =>
            (F17 k a0).bind fun b4 =>
              (F18 k b4).bind fun b5 =>
                cond ((!(b5 == b3)))
                  (K (.one (.v (.bool false)), []))
                  ((F17 k a0).bind fun b6 =>
                    (F19 k b4 b6).bind fun b7 =>
                      cond ((!b7))
                        (K (.one (.v (.bool false)), []))
                        (K (.one (.v (.bool true)), [])))) := by kernel_rfl
theorem F3_ev {β : Type} (k : Nat) (a0 : List (den pace)) (K : A × List (List Leaf) → Option β) : evalF (F3_E k) Try.f3 [.one (.l (.s .ro pace a0))] K = (F3 k a0).bind fun r => K (.one (.v (.bool r)), []) := by
  rw [F3_st, F3]
  simp only [bind_cond, Option.bind_assoc, Option.bind_some, Option.bind_none, Option.bind_fun_some]
theorem F3_tOk (k : Nat) : TabFn Try.prog (F3_t k) := by
  constructor <;> intro f xs cr h <;> unfold F3_t at h <;> split at h <;> first | (simp only [Option.some.injEq] at h; subst h) | (simp at h; done)
  · exact F15_con _ _ _
  · exact F17_con _ _
  · exact F16_con _ _
  · exact F18_con _ _
  · exact F19_con _ _ _
  · exact .of (by kernel_rfl)
  · exact .of (by kernel_rfl)
  · exact .of (by kernel_rfl)
  · exact .of (by kernel_rfl)
  · exact .of (by kernel_rfl)
theorem F3_con (k : Nat) (a0 : List (den pace)) : Contract Try.prog 3 [.one (.l (.s .ro pace a0))] ⟨F3 k a0, fun r => (.one (.v (.bool r)), [])⟩ :=
  con_of (envOk (F3_tOk k) _ _ _ _) mixed Try.func3 rfl rfl (F3_ev k a0 some)
/-! 20: loop.example/netstack/spec.SharedFar -/
def F20_h : Nat → Hint
  | 0 => ⟨[(0, .plain), (3, .plain), (4, .plain), (5, .plain)], []⟩
  | _ => ⟨[], []⟩
def F20_t (k : Nat) : Tab
  | 16, [.one (.l (.s .ro (.pair (.int .i64) (.pair (.int .i64) (.int .i64))) a0))] => some ⟨F16 k a0, fun r => (.one (.v (.bool r)), [])⟩
  | _, _ => none
abbrev F20_E (k : Nat) : Env := env (F20_t k) F20_h .own [] k
def F20_s0 (a0 : List (den pace)) (x3_0 : Int) (x4_0 : Int) (x5_0 : Int) : St := ⟨[.one (.s .ro pace a0), .one .d, .one .d, .one (.v (.int .i64 x3_0)), .one (.v (.int .i64 x4_0)), .one (.v (.int .i64 x5_0)), .one .d, .one .d, .one .d, .one .d, .one .d, .one .d, .one .d, .one .d, .one .d, .one .d, .one .d, .one .d, .one .d, .one .d, .one .d, .one .d, .one .d, .one .d, .one .d, .one .d, .one .d, .one .d, .one .d, .one .d, .one .d, .one .d], []⟩
def F20_l0 (k : Nat) (a0 : List (den pace)) : Nat → Int → Int → Int → Option (Int)
  | 0, _, _, _ => none
  | n + 1, x3_0, x4_0, x5_0 =>
    cond (decide (x5_0 < ((a0.length : Nat) : Int)))
      (cond (decide (0 ≤ x5_0))
        (cond (decide (x5_0 < ((a0.length : Nat) : Int)))
          (cond (decide (0 ≤ x5_0))
            (cond (decide (x5_0 < ((a0.length : Nat) : Int)))
              (F20_l0 k a0 n (if ((atI a0 x5_0).1) < x3_0 then (atI a0 x5_0).1 else x3_0) (if x4_0 < ((atI a0 x5_0).1) then (atI a0 x5_0).1 else x4_0) (IntKind.i64.wrap (x5_0 + 1)))
              (none))
            (none))
          (none))
        (none))
      (some (IntKind.i64.wrap (x4_0 - x3_0)))
theorem F20_l0_rd {β : Type} (k n : Nat) (a0 : List (den pace)) (x3_0 : Int) (x4_0 : Int) (x5_0 : Int) (K : A × List (List Leaf) → Option β) :
    loopG (F20_E k) Try.f20 [1, 1, 1, 0, 1, 0] 0 (kontAt (F20_E k) [1, 1, 1, 0, 1, 0] (bodyOf Try.f20) 0 (endC (F20_E k) Try.f20 [.one (.l (.s .ro pace a0))] K)) (n + 1) (F20_s0 a0 x3_0 x4_0 x5_0) =
    cond (decide (x5_0 < ((a0.length : Nat) : Int)))
      (cond (decide (0 ≤ x5_0))
        (cond (decide (x5_0 < ((a0.length : Nat) : Int)))
          (cond (decide (0 ≤ x5_0))
            (cond (decide (x5_0 < ((a0.length : Nat) : Int)))
              (loopG (F20_E k) Try.f20 [1, 1, 1, 0, 1, 0] 0 (kontAt (F20_E k) [1, 1, 1, 0, 1, 0] (bodyOf Try.f20) 0 (endC (F20_E k) Try.f20 [.one (.l (.s .ro pace a0))] K)) n (F20_s0 a0 (if ((atI a0 x5_0).1) < x3_0 then (atI a0 x5_0).1 else x3_0) (if x4_0 < ((atI a0 x5_0).1) then (atI a0 x5_0).1 else x4_0) (IntKind.i64.wrap (x5_0 + 1))))
              (none))
            (none))
          (none))
        (none))
      (K (.one (.v (.int .i64 (IntKind.i64.wrap (x4_0 - x3_0)))), [])) := by kernel_rfl
theorem F20_l0_lp {β : Type} (k : Nat) (a0 : List (den pace)) (K : A × List (List Leaf) → Option β) (n : Nat) : ∀ (x3_0 : Int) (x4_0 : Int) (x5_0 : Int), loopG (F20_E k) Try.f20 [1, 1, 1, 0, 1, 0] 0 (kontAt (F20_E k) [1, 1, 1, 0, 1, 0] (bodyOf Try.f20) 0 (endC (F20_E k) Try.f20 [.one (.l (.s .ro pace a0))] K)) n (F20_s0 a0 x3_0 x4_0 x5_0) =
    (F20_l0 k a0 n x3_0 x4_0 x5_0).bind fun r => K (.one (.v (.int .i64 r)), []) := by
  induction n with
  | zero => intros; rfl
  | succ n ih =>
    intros
    rw [F20_l0_rd, F20_l0]
    simp only [bind_cond, Option.bind_assoc, Option.bind_some, Option.bind_none, Option.bind_fun_some, ih]
def F20 (k : Nat) (a0 : List (den pace)) : Option (Int) :=
  (F16 k a0).bind fun b1 =>
    cond ((!b1))
      (some (-1))
      (F20_l0 k a0 k 64 0 0)
theorem F20_st {β : Type} (k : Nat) (a0 : List (den pace)) (K : A × List (List Leaf) → Option β) : evalF (F20_E k) Try.f20 [.one (.l (.s .ro pace a0))] K =
    (F16 k a0).bind fun b1 =>
      cond ((!b1))
        (K (.one (.v (.int .i64 (-1))), []))
        (loopG (F20_E k) Try.f20 [1, 1, 1, 0, 1, 0] 0 (kontAt (F20_E k) [1, 1, 1, 0, 1, 0] (bodyOf Try.f20) 0 (endC (F20_E k) Try.f20 [.one (.l (.s .ro pace a0))] K)) k (F20_s0 a0 64 0 0)) := by kernel_rfl
theorem F20_ev {β : Type} (k : Nat) (a0 : List (den pace)) (K : A × List (List Leaf) → Option β) : evalF (F20_E k) Try.f20 [.one (.l (.s .ro pace a0))] K = (F20 k a0).bind fun r => K (.one (.v (.int .i64 r)), []) := by
  rw [F20_st, F20]
  simp only [bind_cond, Option.bind_assoc, Option.bind_some, Option.bind_none, Option.bind_fun_some, F20_l0_lp]
theorem F20_tOk (k : Nat) : TabFn Try.prog (F20_t k) := by
  constructor <;> intro f xs cr h <;> unfold F20_t at h <;> split at h <;> first | (simp only [Option.some.injEq] at h; subst h) | (simp at h; done)
  · exact F16_con _ _
  · exact .of (by kernel_rfl)
theorem F20_con (k : Nat) (a0 : List (den pace)) : Contract Try.prog 20 [.one (.l (.s .ro pace a0))] ⟨F20 k a0, fun r => (.one (.v (.int .i64 r)), [])⟩ :=
  con_of (envOk (F20_tOk k) _ _ _ _) mixed Try.func20 rfl rfl (F20_ev k a0 some)
/-! 21: loop.example/netstack/impl.SharedFar -/
def F21_h : Nat → Hint
  | 0 => ⟨[(3, .plain), (4, .plain), (18, .plain), (19, .plain), (20, .plain)], []⟩
  | _ => ⟨[], []⟩
def F21_t (k : Nat) : Tab
  | 18, [.one (.l (.s .ro (.pair (.int .i64) (.pair (.int .i64) (.int .i64))) a0))] => some ⟨F18 k a0, fun r => (.one (.v (.bool r)), [])⟩
  | _, _ => none
abbrev F21_E (k : Nat) : Env := env (F21_t k) F21_h .own [] k
def F21_s0 (a0 : List (den pace)) (x3_0 : Int) (x4_0 : Int) (x20_0 : Int) : St := ⟨[.one .d, .one .d, .one .d, .one (.v (.int .i64 x3_0)), .one (.v (.int .i64 x4_0)), .one .d, .one .d, .one .d, .one .d, .one .d, .one .d, .one .d, .one .d, .one .d, .one .d, .one .d, .one .d, .one .d, .one (.s .ro pace a0), .one (.v (.int .i64 ((a0.length : Nat) : Int))), .one (.v (.int .i64 x20_0)), .one .d, .one .d, .one .d, .one .d, .one .d, .one .d, .one .d, .one .d, .one .d, .one .d, .one .d, .one .d, .one .d, .one .d, .one .d], []⟩
def F21_l0 (k : Nat) (a0 : List (den pace)) : Nat → Int → Int → Int → Option (Int)
  | 0, _, _, _ => none
  | n + 1, x3_0, x4_0, x20_0 =>
    cond (decide (x20_0 < ((a0.length : Nat) : Int)))
      (cond (decide (0 ≤ x20_0))
        (cond (decide (x20_0 < ((a0.length : Nat) : Int)))
          (F21_l0 k a0 n (if ((atI a0 x20_0).1) < x3_0 then (atI a0 x20_0).1 else x3_0) (if x4_0 < ((atI a0 x20_0).1) then (atI a0 x20_0).1 else x4_0) (IntKind.i64.wrap (x20_0 + 1)))
          (none))
        (none))
      (some (IntKind.i64.wrap (x4_0 - x3_0)))
theorem F21_l0_rd {β : Type} (k n : Nat) (a0 : List (den pace)) (x3_0 : Int) (x4_0 : Int) (x20_0 : Int) (K : A × List (List Leaf) → Option β) :
    loopG (F21_E k) Try.f21 [1, 1, 1, 0, 1, 0] 0 (kontAt (F21_E k) [1, 1, 1, 0, 1, 0] (bodyOf Try.f21) 0 (endC (F21_E k) Try.f21 [.one (.l (.s .ro pace a0))] K)) (n + 1) (F21_s0 a0 x3_0 x4_0 x20_0) =
    cond (decide (x20_0 < ((a0.length : Nat) : Int)))
      (cond (decide (0 ≤ x20_0))
        (cond (decide (x20_0 < ((a0.length : Nat) : Int)))
          (loopG (F21_E k) Try.f21 [1, 1, 1, 0, 1, 0] 0 (kontAt (F21_E k) [1, 1, 1, 0, 1, 0] (bodyOf Try.f21) 0 (endC (F21_E k) Try.f21 [.one (.l (.s .ro pace a0))] K)) n (F21_s0 a0 (if ((atI a0 x20_0).1) < x3_0 then (atI a0 x20_0).1 else x3_0) (if x4_0 < ((atI a0 x20_0).1) then (atI a0 x20_0).1 else x4_0) (IntKind.i64.wrap (x20_0 + 1))))
          (none))
        (none))
      (K (.one (.v (.int .i64 (IntKind.i64.wrap (x4_0 - x3_0)))), [])) := by kernel_rfl
theorem F21_l0_lp {β : Type} (k : Nat) (a0 : List (den pace)) (K : A × List (List Leaf) → Option β) (n : Nat) : ∀ (x3_0 : Int) (x4_0 : Int) (x20_0 : Int), loopG (F21_E k) Try.f21 [1, 1, 1, 0, 1, 0] 0 (kontAt (F21_E k) [1, 1, 1, 0, 1, 0] (bodyOf Try.f21) 0 (endC (F21_E k) Try.f21 [.one (.l (.s .ro pace a0))] K)) n (F21_s0 a0 x3_0 x4_0 x20_0) =
    (F21_l0 k a0 n x3_0 x4_0 x20_0).bind fun r => K (.one (.v (.int .i64 r)), []) := by
  induction n with
  | zero => intros; rfl
  | succ n ih =>
    intros
    rw [F21_l0_rd, F21_l0]
    simp only [bind_cond, Option.bind_assoc, Option.bind_some, Option.bind_none, Option.bind_fun_some, ih]
def F21 (k : Nat) (a0 : List (den pace)) : Option (Int) :=
  (F18 k a0).bind fun b1 =>
    cond ((!b1))
      (some (-1))
      (cond (decide (0 < ((a0.length : Nat) : Int)))
        (cond (decide (0 < ((a0.length : Nat) : Int)))
          (F21_l0 k a0 k ((atI a0 0).1) ((atI a0 0).1) 0)
          (none))
        (none))
theorem F21_st {β : Type} (k : Nat) (a0 : List (den pace)) (K : A × List (List Leaf) → Option β) : evalF (F21_E k) Try.f21 [.one (.l (.s .ro pace a0))] K =
    (F18 k a0).bind fun b1 =>
      cond ((!b1))
        (K (.one (.v (.int .i64 (-1))), []))
        (cond (decide (0 < ((a0.length : Nat) : Int)))
          (cond (decide (0 < ((a0.length : Nat) : Int)))
            (loopG (F21_E k) Try.f21 [1, 1, 1, 0, 1, 0] 0 (kontAt (F21_E k) [1, 1, 1, 0, 1, 0] (bodyOf Try.f21) 0 (endC (F21_E k) Try.f21 [.one (.l (.s .ro pace a0))] K)) k (F21_s0 a0 ((atI a0 0).1) ((atI a0 0).1) 0))
            (none))
          (none)) := by kernel_rfl
theorem F21_ev {β : Type} (k : Nat) (a0 : List (den pace)) (K : A × List (List Leaf) → Option β) : evalF (F21_E k) Try.f21 [.one (.l (.s .ro pace a0))] K = (F21 k a0).bind fun r => K (.one (.v (.int .i64 r)), []) := by
  rw [F21_st, F21]
  simp only [bind_cond, Option.bind_assoc, Option.bind_some, Option.bind_none, Option.bind_fun_some, F21_l0_lp]
theorem F21_tOk (k : Nat) : TabFn Try.prog (F21_t k) := by
  constructor <;> intro f xs cr h <;> unfold F21_t at h <;> split at h <;> first | (simp only [Option.some.injEq] at h; subst h) | (simp at h; done)
  · exact F18_con _ _
  · exact .of (by kernel_rfl)
theorem F21_con (k : Nat) (a0 : List (den pace)) : Contract Try.prog 21 [.one (.l (.s .ro pace a0))] ⟨F21 k a0, fun r => (.one (.v (.int .i64 r)), [])⟩ :=
  con_of (envOk (F21_tOk k) _ _ _ _) mixed Try.func21 rfl rfl (F21_ev k a0 some)
/-! 4: loop.example/netstack/laws.FnExactSharedFar -/
def F4_t (k : Nat) : Tab
  | 15, [.one (.l (.s .ro (.pair (.int .i64) (.pair (.int .i64) (.int .i64))) a0)), .one (.l (.v (.int .i64 a1)))] => some ⟨F15 k a0 a1, fun r => (.one (.v (.int .i64 r)), [])⟩
  | 17, [.one (.l (.s .ro (.pair (.int .i64) (.pair (.int .i64) (.int .i64))) a0))] => some ⟨F17 k a0, fun r => (.one (.s .own pace r), [])⟩
  | 20, [.one (.l (.s .ro (.pair (.int .i64) (.pair (.int .i64) (.int .i64))) a0))] => some ⟨F20 k a0, fun r => (.one (.v (.int .i64 r)), [])⟩
  | 21, [.one (.l (.s .ro (.pair (.int .i64) (.pair (.int .i64) (.int .i64))) a0))] => some ⟨F21 k a0, fun r => (.one (.v (.int .i64 r)), [])⟩
  | 19, [.one (.l (.s .ro (.pair (.int .i64) (.pair (.int .i64) (.int .i64))) a0)), .one (.l (.s .ro (.pair (.int .i64) (.pair (.int .i64) (.int .i64))) a1))] => some ⟨F19 k a0 a1, fun r => (.one (.v (.bool r)), [])⟩
  | _, _ => none
abbrev F4_E (k : Nat) : Env := env (F4_t k) noHint .own [] k
def F4 (k : Nat) (a0 : List (den pace)) : Option (Bool) :=
  (F15 k a0 1048576).bind fun b1 =>
    cond (decide (b1 < 0))
      (some true)
      ((F17 k a0).bind fun b2 =>
        (F20 k b2).bind fun b3 =>
          (F17 k a0).bind fun b4 =>
            (F21 k b4).bind fun b5 =>
              cond ((b5 != b3))
                (some false)
                ((F17 k a0).bind fun b6 =>
                  (F19 k b4 b6).bind fun b7 =>
                    cond ((!b7))
                      (some false)
                      (some true)))
theorem F4_st {β : Type} (k : Nat) (a0 : List (den pace)) (K : A × List (List Leaf) → Option β) : evalF (F4_E k) Try.f4 [.one (.l (.s .ro pace a0))] K =
    (F15 k a0 1048576).bind fun b1 =>
      cond (decide (b1 < 0))
        (K (.one (.v (.bool true)), []))
        ((F17 k a0).bind fun b2 =>
          (F20 k b2).bind fun b3 =>
            (F17 k a0).bind fun b4 =>
              (F21 k b4).bind fun b5 =>
                cond ((b5 != b3))
                  (K (.one (.v (.bool false)), []))
                  ((F17 k a0).bind fun b6 =>
                    (F19 k b4 b6).bind fun b7 =>
                      cond ((!b7))
                        (K (.one (.v (.bool false)), []))
                        (K (.one (.v (.bool true)), [])))) := by kernel_rfl
theorem F4_ev {β : Type} (k : Nat) (a0 : List (den pace)) (K : A × List (List Leaf) → Option β) : evalF (F4_E k) Try.f4 [.one (.l (.s .ro pace a0))] K = (F4 k a0).bind fun r => K (.one (.v (.bool r)), []) := by
  rw [F4_st, F4]
  simp only [bind_cond, Option.bind_assoc, Option.bind_some, Option.bind_none, Option.bind_fun_some]
theorem F4_tOk (k : Nat) : TabFn Try.prog (F4_t k) := by
  constructor <;> intro f xs cr h <;> unfold F4_t at h <;> split at h <;> first | (simp only [Option.some.injEq] at h; subst h) | (simp at h; done)
  · exact F15_con _ _ _
  · exact F17_con _ _
  · exact F20_con _ _
  · exact F21_con _ _
  · exact F19_con _ _ _
  · exact .of (by kernel_rfl)
  · exact .of (by kernel_rfl)
  · exact .of (by kernel_rfl)
  · exact .of (by kernel_rfl)
  · exact .of (by kernel_rfl)
theorem F4_con (k : Nat) (a0 : List (den pace)) : Contract Try.prog 4 [.one (.l (.s .ro pace a0))] ⟨F4 k a0, fun r => (.one (.v (.bool r)), [])⟩ :=
  con_of (envOk (F4_tOk k) _ _ _ _) mixed Try.func4 rfl rfl (F4_ev k a0 some)
/-! 22: loop.example/netstack/spec.SharedAll -/
def F22_h : Nat → Hint
  | 0 => ⟨[(0, .plain), (3, .plain), (4, .plain)], []⟩
  | _ => ⟨[], []⟩
def F22_t (k : Nat) : Tab
  | 16, [.one (.l (.s .ro (.pair (.int .i64) (.pair (.int .i64) (.int .i64))) a0))] => some ⟨F16 k a0, fun r => (.one (.v (.bool r)), [])⟩
  | _, _ => none
abbrev F22_E (k : Nat) : Env := env (F22_t k) F22_h .own [] k
def F22_s0 (a0 : List (den pace)) (x3_0 : Int) (x4_0 : Int) : St := ⟨[.one (.s .ro pace a0), .one .d, .one .d, .one (.v (.int .i64 x3_0)), .one (.v (.int .i64 x4_0)), .one .d, .one .d, .one .d, .one .d, .one .d, .one .d, .one .d, .one .d, .one .d, .one .d, .one .d, .one .d, .one .d, .one .d, .one .d, .one .d, .one .d], []⟩
def F22_l0 (k : Nat) (a0 : List (den pace)) : Nat → Int → Int → Option (Int)
  | 0, _, _ => none
  | n + 1, x3_0, x4_0 =>
    cond (decide (x4_0 < ((a0.length : Nat) : Int)))
      (cond (decide (0 ≤ x4_0))
        (cond (decide (x4_0 < ((a0.length : Nat) : Int)))
          (F22_l0 k a0 n (IntKind.i64.wrap (x3_0 + ((atI a0 x4_0).1))) (IntKind.i64.wrap (x4_0 + 1)))
          (none))
        (none))
      (some x3_0)
theorem F22_l0_rd {β : Type} (k n : Nat) (a0 : List (den pace)) (x3_0 : Int) (x4_0 : Int) (K : A × List (List Leaf) → Option β) :
    loopG (F22_E k) Try.f22 [1, 1, 1, 0, 1, 0] 0 (kontAt (F22_E k) [1, 1, 1, 0, 1, 0] (bodyOf Try.f22) 0 (endC (F22_E k) Try.f22 [.one (.l (.s .ro pace a0))] K)) (n + 1) (F22_s0 a0 x3_0 x4_0) =
    cond (decide (x4_0 < ((a0.length : Nat) : Int)))
      (cond (decide (0 ≤ x4_0))
        (cond (decide (x4_0 < ((a0.length : Nat) : Int)))
          (loopG (F22_E k) Try.f22 [1, 1, 1, 0, 1, 0] 0 (kontAt (F22_E k) [1, 1, 1, 0, 1, 0] (bodyOf Try.f22) 0 (endC (F22_E k) Try.f22 [.one (.l (.s .ro pace a0))] K)) n (F22_s0 a0 (IntKind.i64.wrap (x3_0 + ((atI a0 x4_0).1))) (IntKind.i64.wrap (x4_0 + 1))))
          (none))
        (none))
      (K (.one (.v (.int .i64 x3_0)), [])) := by kernel_rfl
theorem F22_l0_lp {β : Type} (k : Nat) (a0 : List (den pace)) (K : A × List (List Leaf) → Option β) (n : Nat) : ∀ (x3_0 : Int) (x4_0 : Int), loopG (F22_E k) Try.f22 [1, 1, 1, 0, 1, 0] 0 (kontAt (F22_E k) [1, 1, 1, 0, 1, 0] (bodyOf Try.f22) 0 (endC (F22_E k) Try.f22 [.one (.l (.s .ro pace a0))] K)) n (F22_s0 a0 x3_0 x4_0) =
    (F22_l0 k a0 n x3_0 x4_0).bind fun r => K (.one (.v (.int .i64 r)), []) := by
  induction n with
  | zero => intros; rfl
  | succ n ih =>
    intros
    rw [F22_l0_rd, F22_l0]
    simp only [bind_cond, Option.bind_assoc, Option.bind_some, Option.bind_none, Option.bind_fun_some, ih]
def F22 (k : Nat) (a0 : List (den pace)) : Option (Int) :=
  (F16 k a0).bind fun b1 =>
    cond ((!b1))
      (some (-1))
      (F22_l0 k a0 k 0 0)
theorem F22_st {β : Type} (k : Nat) (a0 : List (den pace)) (K : A × List (List Leaf) → Option β) : evalF (F22_E k) Try.f22 [.one (.l (.s .ro pace a0))] K =
    (F16 k a0).bind fun b1 =>
      cond ((!b1))
        (K (.one (.v (.int .i64 (-1))), []))
        (loopG (F22_E k) Try.f22 [1, 1, 1, 0, 1, 0] 0 (kontAt (F22_E k) [1, 1, 1, 0, 1, 0] (bodyOf Try.f22) 0 (endC (F22_E k) Try.f22 [.one (.l (.s .ro pace a0))] K)) k (F22_s0 a0 0 0)) := by kernel_rfl
theorem F22_ev {β : Type} (k : Nat) (a0 : List (den pace)) (K : A × List (List Leaf) → Option β) : evalF (F22_E k) Try.f22 [.one (.l (.s .ro pace a0))] K = (F22 k a0).bind fun r => K (.one (.v (.int .i64 r)), []) := by
  rw [F22_st, F22]
  simp only [bind_cond, Option.bind_assoc, Option.bind_some, Option.bind_none, Option.bind_fun_some, F22_l0_lp]
theorem F22_tOk (k : Nat) : TabFn Try.prog (F22_t k) := by
  constructor <;> intro f xs cr h <;> unfold F22_t at h <;> split at h <;> first | (simp only [Option.some.injEq] at h; subst h) | (simp at h; done)
  · exact F16_con _ _
  · exact .of (by kernel_rfl)
theorem F22_con (k : Nat) (a0 : List (den pace)) : Contract Try.prog 22 [.one (.l (.s .ro pace a0))] ⟨F22 k a0, fun r => (.one (.v (.int .i64 r)), [])⟩ :=
  con_of (envOk (F22_tOk k) _ _ _ _) mixed Try.func22 rfl rfl (F22_ev k a0 some)
/-! 54: loop.example/netstack/impl.sharedAll -/
def F54_h : Nat → Hint
  | 0 => ⟨[(3, .plain), (6, .plain), (7, .plain), (8, .plain)], []⟩
  | _ => ⟨[], []⟩
abbrev F54_E (k : Nat) : Env := env noTab F54_h .own [] k
def F54_s0 (a0 : List (den pace)) (x3_0 : Int) (x8_0 : Int) : St := ⟨[.one .d, .one .d, .one .d, .one (.v (.int .i64 x3_0)), .one .d, .one .d, .one (.s .ro pace a0), .one (.v (.int .i64 ((a0.length : Nat) : Int))), .one (.v (.int .i64 x8_0)), .one .d, .one .d, .one .d, .one .d, .one .d, .one .d, .one .d, .one .d, .one .d], []⟩
def F54_l0 (k : Nat) (a0 : List (den pace)) : Nat → Int → Int → Option (Int)
  | 0, _, _ => none
  | n + 1, x3_0, x8_0 =>
    cond (decide (x8_0 < ((a0.length : Nat) : Int)))
      (cond (decide (0 ≤ x8_0))
        (cond (decide (x8_0 < ((a0.length : Nat) : Int)))
          (F54_l0 k a0 n (IntKind.i64.wrap (x3_0 + ((atI a0 x8_0).1))) (IntKind.i64.wrap (x8_0 + 1)))
          (none))
        (none))
      (some x3_0)
theorem F54_l0_rd {β : Type} (k n : Nat) (a0 : List (den pace)) (x3_0 : Int) (x8_0 : Int) (K : A × List (List Leaf) → Option β) :
    loopG (F54_E k) Try.f54 [1, 1, 0, 1, 0] 0 (kontAt (F54_E k) [1, 1, 0, 1, 0] (bodyOf Try.f54) 0 (endC (F54_E k) Try.f54 [.one (.l (.s .ro pace a0))] K)) (n + 1) (F54_s0 a0 x3_0 x8_0) =
    cond (decide (x8_0 < ((a0.length : Nat) : Int)))
      (cond (decide (0 ≤ x8_0))
        (cond (decide (x8_0 < ((a0.length : Nat) : Int)))
          (loopG (F54_E k) Try.f54 [1, 1, 0, 1, 0] 0 (kontAt (F54_E k) [1, 1, 0, 1, 0] (bodyOf Try.f54) 0 (endC (F54_E k) Try.f54 [.one (.l (.s .ro pace a0))] K)) n (F54_s0 a0 (IntKind.i64.wrap (x3_0 + ((atI a0 x8_0).1))) (IntKind.i64.wrap (x8_0 + 1))))
          (none))
        (none))
      (K (.one (.v (.int .i64 x3_0)), [])) := by kernel_rfl
theorem F54_l0_lp {β : Type} (k : Nat) (a0 : List (den pace)) (K : A × List (List Leaf) → Option β) (n : Nat) : ∀ (x3_0 : Int) (x8_0 : Int), loopG (F54_E k) Try.f54 [1, 1, 0, 1, 0] 0 (kontAt (F54_E k) [1, 1, 0, 1, 0] (bodyOf Try.f54) 0 (endC (F54_E k) Try.f54 [.one (.l (.s .ro pace a0))] K)) n (F54_s0 a0 x3_0 x8_0) =
    (F54_l0 k a0 n x3_0 x8_0).bind fun r => K (.one (.v (.int .i64 r)), []) := by
  induction n with
  | zero => intros; rfl
  | succ n ih =>
    intros
    rw [F54_l0_rd, F54_l0]
    simp only [bind_cond, Option.bind_assoc, Option.bind_some, Option.bind_none, Option.bind_fun_some, ih]
def F54 (k : Nat) (a0 : List (den pace)) : Option (Int) :=
  F54_l0 k a0 k 0 0
theorem F54_st {β : Type} (k : Nat) (a0 : List (den pace)) (K : A × List (List Leaf) → Option β) : evalF (F54_E k) Try.f54 [.one (.l (.s .ro pace a0))] K =
    loopG (F54_E k) Try.f54 [1, 1, 0, 1, 0] 0 (kontAt (F54_E k) [1, 1, 0, 1, 0] (bodyOf Try.f54) 0 (endC (F54_E k) Try.f54 [.one (.l (.s .ro pace a0))] K)) k (F54_s0 a0 0 0) := by kernel_rfl
theorem F54_ev {β : Type} (k : Nat) (a0 : List (den pace)) (K : A × List (List Leaf) → Option β) : evalF (F54_E k) Try.f54 [.one (.l (.s .ro pace a0))] K = (F54 k a0).bind fun r => K (.one (.v (.int .i64 r)), []) := by
  rw [F54_st, F54]
  simp only [bind_cond, Option.bind_assoc, Option.bind_some, Option.bind_none, Option.bind_fun_some, F54_l0_lp]
theorem F54_con (k : Nat) (a0 : List (den pace)) : Contract Try.prog 54 [.one (.l (.s .ro pace a0))] ⟨F54 k a0, fun r => (.one (.v (.int .i64 r)), [])⟩ :=
  con_of (envOk .none _ _ _ _) mixed Try.func54 rfl rfl (F54_ev k a0 some)
/-! 23: loop.example/netstack/impl.SharedAll -/
def F23_t (k : Nat) : Tab
  | 18, [.one (.l (.s .ro (.pair (.int .i64) (.pair (.int .i64) (.int .i64))) a0))] => some ⟨F18 k a0, fun r => (.one (.v (.bool r)), [])⟩
  | 54, [.one (.l (.s .ro (.pair (.int .i64) (.pair (.int .i64) (.int .i64))) a0))] => some ⟨F54 k a0, fun r => (.one (.v (.int .i64 r)), [])⟩
  | _, _ => none
abbrev F23_E (k : Nat) : Env := env (F23_t k) noHint .own [] k
def F23 (k : Nat) (a0 : List (den pace)) : Option (Int) :=
  (F18 k a0).bind fun b1 =>
    cond ((!b1))
      (some (-1))
      ((F54 k a0).bind fun b2 =>
        some b2)
theorem F23_st {β : Type} (k : Nat) (a0 : List (den pace)) (K : A × List (List Leaf) → Option β) : evalF (F23_E k) Try.f23 [.one (.l (.s .ro pace a0))] K =
    (F18 k a0).bind fun b1 =>
      cond ((!b1))
        (K (.one (.v (.int .i64 (-1))), []))
        ((F54 k a0).bind fun b2 =>
          K (.one (.v (.int .i64 b2)), [])) := by kernel_rfl
theorem F23_ev {β : Type} (k : Nat) (a0 : List (den pace)) (K : A × List (List Leaf) → Option β) : evalF (F23_E k) Try.f23 [.one (.l (.s .ro pace a0))] K = (F23 k a0).bind fun r => K (.one (.v (.int .i64 r)), []) := by
  rw [F23_st, F23]
  simp only [bind_cond, Option.bind_assoc, Option.bind_some, Option.bind_none, Option.bind_fun_some]
theorem F23_tOk (k : Nat) : TabFn Try.prog (F23_t k) := by
  constructor <;> intro f xs cr h <;> unfold F23_t at h <;> split at h <;> first | (simp only [Option.some.injEq] at h; subst h) | (simp at h; done)
  · exact F18_con _ _
  · exact F54_con _ _
  · exact .of (by kernel_rfl)
  · exact .of (by kernel_rfl)
theorem F23_con (k : Nat) (a0 : List (den pace)) : Contract Try.prog 23 [.one (.l (.s .ro pace a0))] ⟨F23 k a0, fun r => (.one (.v (.int .i64 r)), [])⟩ :=
  con_of (envOk (F23_tOk k) _ _ _ _) mixed Try.func23 rfl rfl (F23_ev k a0 some)
/-! 5: loop.example/netstack/laws.FnExactSharedAll -/
def F5_t (k : Nat) : Tab
  | 15, [.one (.l (.s .ro (.pair (.int .i64) (.pair (.int .i64) (.int .i64))) a0)), .one (.l (.v (.int .i64 a1)))] => some ⟨F15 k a0 a1, fun r => (.one (.v (.int .i64 r)), [])⟩
  | 17, [.one (.l (.s .ro (.pair (.int .i64) (.pair (.int .i64) (.int .i64))) a0))] => some ⟨F17 k a0, fun r => (.one (.s .own pace r), [])⟩
  | 22, [.one (.l (.s .ro (.pair (.int .i64) (.pair (.int .i64) (.int .i64))) a0))] => some ⟨F22 k a0, fun r => (.one (.v (.int .i64 r)), [])⟩
  | 23, [.one (.l (.s .ro (.pair (.int .i64) (.pair (.int .i64) (.int .i64))) a0))] => some ⟨F23 k a0, fun r => (.one (.v (.int .i64 r)), [])⟩
  | 19, [.one (.l (.s .ro (.pair (.int .i64) (.pair (.int .i64) (.int .i64))) a0)), .one (.l (.s .ro (.pair (.int .i64) (.pair (.int .i64) (.int .i64))) a1))] => some ⟨F19 k a0 a1, fun r => (.one (.v (.bool r)), [])⟩
  | _, _ => none
abbrev F5_E (k : Nat) : Env := env (F5_t k) noHint .own [] k
def F5 (k : Nat) (a0 : List (den pace)) : Option (Bool) :=
  (F15 k a0 1048576).bind fun b1 =>
    cond (decide (b1 < 0))
      (some true)
      ((F17 k a0).bind fun b2 =>
        (F22 k b2).bind fun b3 =>
          (F17 k a0).bind fun b4 =>
            (F23 k b4).bind fun b5 =>
              cond ((b5 != b3))
                (some false)
                ((F17 k a0).bind fun b6 =>
                  (F19 k b4 b6).bind fun b7 =>
                    cond ((!b7))
                      (some false)
                      (some true)))
theorem F5_st {β : Type} (k : Nat) (a0 : List (den pace)) (K : A × List (List Leaf) → Option β) : evalF (F5_E k) Try.f5 [.one (.l (.s .ro pace a0))] K =
    (F15 k a0 1048576).bind fun b1 =>
      cond (decide (b1 < 0))
        (K (.one (.v (.bool true)), []))
        ((F17 k a0).bind fun b2 =>
          (F22 k b2).bind fun b3 =>
            (F17 k a0).bind fun b4 =>
              (F23 k b4).bind fun b5 =>
                cond ((b5 != b3))
                  (K (.one (.v (.bool false)), []))
                  ((F17 k a0).bind fun b6 =>
                    (F19 k b4 b6).bind fun b7 =>
                      cond ((!b7))
                        (K (.one (.v (.bool false)), []))
                        (K (.one (.v (.bool true)), [])))) := by kernel_rfl
theorem F5_ev {β : Type} (k : Nat) (a0 : List (den pace)) (K : A × List (List Leaf) → Option β) : evalF (F5_E k) Try.f5 [.one (.l (.s .ro pace a0))] K = (F5 k a0).bind fun r => K (.one (.v (.bool r)), []) := by
  rw [F5_st, F5]
  simp only [bind_cond, Option.bind_assoc, Option.bind_some, Option.bind_none, Option.bind_fun_some]
theorem F5_tOk (k : Nat) : TabFn Try.prog (F5_t k) := by
  constructor <;> intro f xs cr h <;> unfold F5_t at h <;> split at h <;> first | (simp only [Option.some.injEq] at h; subst h) | (simp at h; done)
  · exact F15_con _ _ _
  · exact F17_con _ _
  · exact F22_con _ _
  · exact F23_con _ _
  · exact F19_con _ _ _
  · exact .of (by kernel_rfl)
  · exact .of (by kernel_rfl)
  · exact .of (by kernel_rfl)
  · exact .of (by kernel_rfl)
  · exact .of (by kernel_rfl)
theorem F5_con (k : Nat) (a0 : List (den pace)) : Contract Try.prog 5 [.one (.l (.s .ro pace a0))] ⟨F5 k a0, fun r => (.one (.v (.bool r)), [])⟩ :=
  con_of (envOk (F5_tOk k) _ _ _ _) mixed Try.func5 rfl rfl (F5_ev k a0 some)
/-! 60: loop.example/netstack/spec.PaceHeard -/
def F60_t (k : Nat) : Tab
  | 46, [.agg [.l (.v (.int .i64 a0_0)), .l (.v (.int .i64 a0_1)), .l (.v (.int .i64 a0_2))]] => some ⟨F46 k a0_0 a0_1 a0_2, fun r => (.one (.v (.bool r)), [])⟩
  | _, _ => none
abbrev F60_E (k : Nat) : Env := env (F60_t k) noHint .own [] k
def F60 (k : Nat) (a0_0 : Int) (a0_1 : Int) (a0_2 : Int) : Option (Int × Int × Int) :=
  (F46 k a0_0 a0_1 a0_2).bind fun b1 =>
    cond ((!b1))
      (some (0, 0, 0))
      (cond (decide (a0_0 < a0_1))
        (some (IntKind.i64.wrap (a0_0 + 1), a0_1, 0))
        (cond (decide ((IntKind.i64.wrap (a0_2 + 1)) < a0_0))
          (some (a0_0, a0_1, IntKind.i64.wrap (a0_2 + 1)))
          (some ((if 64 < (IntKind.i64.wrap (a0_0 + 1)) then 64 else IntKind.i64.wrap (a0_0 + 1)), a0_1, 0))))
theorem F60_st {β : Type} (k : Nat) (a0_0 : Int) (a0_1 : Int) (a0_2 : Int) (K : A × List (List Leaf) → Option β) : evalF (F60_E k) Try.f60 [.agg [.l (.v (.int .i64 a0_0)), .l (.v (.int .i64 a0_1)), .l (.v (.int .i64 a0_2))]] K =
    (F46 k a0_0 a0_1 a0_2).bind fun b1 =>
      cond ((!b1))
        (K (.agg [.v (.int .i64 0), .v (.int .i64 0), .v (.int .i64 0)], []))
        (cond (decide (a0_0 < a0_1))
          (K (.agg [.v (.int .i64 (IntKind.i64.wrap (a0_0 + 1))), .v (.int .i64 a0_1), .v (.int .i64 0)], []))
          (cond (decide ((IntKind.i64.wrap (a0_2 + 1)) < a0_0))
            (K (.agg [.v (.int .i64 a0_0), .v (.int .i64 a0_1), .v (.int .i64 (IntKind.i64.wrap (a0_2 + 1)))], []))
            (K (.agg [.v (.int .i64 (if 64 < (IntKind.i64.wrap (a0_0 + 1)) then 64 else IntKind.i64.wrap (a0_0 + 1))), .v (.int .i64 a0_1), .v (.int .i64 0)], [])))) := by kernel_rfl
theorem F60_ev {β : Type} (k : Nat) (a0_0 : Int) (a0_1 : Int) (a0_2 : Int) (K : A × List (List Leaf) → Option β) : evalF (F60_E k) Try.f60 [.agg [.l (.v (.int .i64 a0_0)), .l (.v (.int .i64 a0_1)), .l (.v (.int .i64 a0_2))]] K = (F60 k a0_0 a0_1 a0_2).bind fun r => K (.agg [.v (.int .i64 r.1), .v (.int .i64 r.2.1), .v (.int .i64 r.2.2)], []) := by
  rw [F60_st, F60]
  simp only [bind_cond, Option.bind_assoc, Option.bind_some, Option.bind_none, Option.bind_fun_some]
theorem F60_tOk (k : Nat) : TabFn Try.prog (F60_t k) := by
  constructor <;> intro f xs cr h <;> unfold F60_t at h <;> split at h <;> first | (simp only [Option.some.injEq] at h; subst h) | (simp at h; done)
  · exact F46_con _ _ _ _
  · exact .of (by kernel_rfl)
theorem F60_con (k : Nat) (a0_0 : Int) (a0_1 : Int) (a0_2 : Int) : Contract Try.prog 60 [.agg [.l (.v (.int .i64 a0_0)), .l (.v (.int .i64 a0_1)), .l (.v (.int .i64 a0_2))]] ⟨F60 k a0_0 a0_1 a0_2, fun r => (.agg [.v (.int .i64 r.1), .v (.int .i64 r.2.1), .v (.int .i64 r.2.2)], [])⟩ :=
  con_of (envOk (F60_tOk k) _ _ _ _) mixed Try.func60 rfl rfl (F60_ev k a0_0 a0_1 a0_2 some)
/-! 61: loop.example/netstack/spec.PaceLost -/
def F61_t (k : Nat) : Tab
  | 46, [.agg [.l (.v (.int .i64 a0_0)), .l (.v (.int .i64 a0_1)), .l (.v (.int .i64 a0_2))]] => some ⟨F46 k a0_0 a0_1 a0_2, fun r => (.one (.v (.bool r)), [])⟩
  | _, _ => none
abbrev F61_E (k : Nat) : Env := env (F61_t k) noHint .own [] k
def F61 (k : Nat) (a0_0 : Int) (a0_1 : Int) (a0_2 : Int) : Option (Int × Int × Int) :=
  (F46 k a0_0 a0_1 a0_2).bind fun b1 =>
    cond ((!b1))
      (some (0, 0, 0))
      (some ((if (IntKind.i64.wrap (a0_0.tdiv 2)) < 2 then 2 else IntKind.i64.wrap (a0_0.tdiv 2)), (if (IntKind.i64.wrap (a0_0.tdiv 2)) < 2 then 2 else IntKind.i64.wrap (a0_0.tdiv 2)), 0))
theorem F61_st {β : Type} (k : Nat) (a0_0 : Int) (a0_1 : Int) (a0_2 : Int) (K : A × List (List Leaf) → Option β) : evalF (F61_E k) Try.f61 [.agg [.l (.v (.int .i64 a0_0)), .l (.v (.int .i64 a0_1)), .l (.v (.int .i64 a0_2))]] K =
    (F46 k a0_0 a0_1 a0_2).bind fun b1 =>
      cond ((!b1))
        (K (.agg [.v (.int .i64 0), .v (.int .i64 0), .v (.int .i64 0)], []))
        (K (.agg [.v (.int .i64 (if (IntKind.i64.wrap (a0_0.tdiv 2)) < 2 then 2 else IntKind.i64.wrap (a0_0.tdiv 2))), .v (.int .i64 (if (IntKind.i64.wrap (a0_0.tdiv 2)) < 2 then 2 else IntKind.i64.wrap (a0_0.tdiv 2))), .v (.int .i64 0)], [])) := by kernel_rfl
theorem F61_ev {β : Type} (k : Nat) (a0_0 : Int) (a0_1 : Int) (a0_2 : Int) (K : A × List (List Leaf) → Option β) : evalF (F61_E k) Try.f61 [.agg [.l (.v (.int .i64 a0_0)), .l (.v (.int .i64 a0_1)), .l (.v (.int .i64 a0_2))]] K = (F61 k a0_0 a0_1 a0_2).bind fun r => K (.agg [.v (.int .i64 r.1), .v (.int .i64 r.2.1), .v (.int .i64 r.2.2)], []) := by
  rw [F61_st, F61]
  simp only [bind_cond, Option.bind_assoc, Option.bind_some, Option.bind_none, Option.bind_fun_some]
theorem F61_tOk (k : Nat) : TabFn Try.prog (F61_t k) := by
  constructor <;> intro f xs cr h <;> unfold F61_t at h <;> split at h <;> first | (simp only [Option.some.injEq] at h; subst h) | (simp at h; done)
  · exact F46_con _ _ _ _
  · exact .of (by kernel_rfl)
theorem F61_con (k : Nat) (a0_0 : Int) (a0_1 : Int) (a0_2 : Int) : Contract Try.prog 61 [.agg [.l (.v (.int .i64 a0_0)), .l (.v (.int .i64 a0_1)), .l (.v (.int .i64 a0_2))]] ⟨F61 k a0_0 a0_1 a0_2, fun r => (.agg [.v (.int .i64 r.1), .v (.int .i64 r.2.1), .v (.int .i64 r.2.2)], [])⟩ :=
  con_of (envOk (F61_tOk k) _ _ _ _) mixed Try.func61 rfl rfl (F61_ev k a0_0 a0_1 a0_2 some)
/-! 30: loop.example/netstack/spec.SharedStep -/
def F30_h : Nat → Hint
  | 0 => ⟨[(0, .plain), (6, .own .own pace []), (7, .plain), (8, .plain)], []⟩
  | 2 => ⟨[(0, .plain), (6, .plain), (7, .plain), (8, .plain), (9, .plain), (10, .plain)], [(6900, .plain), (9000, .plain), (9001, .plain), (9002, .plain)]⟩
  | _ => ⟨[], []⟩
def F30_t (k : Nat) : Tab
  | 16, [.one (.l (.s .ro (.pair (.int .i64) (.pair (.int .i64) (.int .i64))) a0))] => some ⟨F16 k a0, fun r => (.one (.v (.bool r)), [])⟩
  | 47, [.one (.l (.v (.int .i64 a0))), .one (.l (.v (.int .i64 a1))), .one (.l (.v (.int .i64 a2)))] => some ⟨F47 k a0 a1 a2, fun r => (.one (.v (.bool r)), [])⟩
  | 22, [.one (.l (.s .ro (.pair (.int .i64) (.pair (.int .i64) (.int .i64))) a0))] => some ⟨F22 k a0, fun r => (.one (.v (.int .i64 r)), [])⟩
  | 60, [.agg [.l (.v (.int .i64 a0_0)), .l (.v (.int .i64 a0_1)), .l (.v (.int .i64 a0_2))]] => some ⟨F60 k a0_0 a0_1 a0_2, fun r => (.agg [.v (.int .i64 r.1), .v (.int .i64 r.2.1), .v (.int .i64 r.2.2)], [])⟩
  | 61, [.agg [.l (.v (.int .i64 a0_0)), .l (.v (.int .i64 a0_1)), .l (.v (.int .i64 a0_2))]] => some ⟨F61 k a0_0 a0_1 a0_2, fun r => (.agg [.v (.int .i64 r.1), .v (.int .i64 r.2.1), .v (.int .i64 r.2.2)], [])⟩
  | _, _ => none
abbrev F30_E (k : Nat) : Env := env (F30_t k) F30_h .own [] k
def F30_s2 (a0 : List (den pace)) (a1 : Int) (x7_2 : Bool) (x8_2 : Int) (x10_2 : Int) (m6900_2 : List (den pace)) (m9000_2 : Int) (m9001_2 : Int) (m9002_2 : Int) : St := ⟨[.one (.s .ro pace a0), .one .d, .one .d, .one .d, .one .d, .one .d, .one (.a (.cell 6900) 0 0 none), .one (.v (.bool x7_2)), .one (.v (.int .i64 x8_2)), .one (.ptr (.cell 9000) 3 0), .one (.v (.int .i64 x10_2)), .one .d, .one .d, .one .d, .one .d, .one .d, .one .d, .one .d, .one .d, .one .d, .one .d, .one .d, .one .d, .one .d, .one .d, .one .d, .one .d, .one .d, .one .d, .one .d, .one .d, .one .d, .one .d, .one .d, .one .d, .one .d, .one .d, .one .d, .one .d, .one .d, .one .d, .one .d, .one .d, .one .d, .one .d, .one .d, .one .d, .one .d, .one .d, .one .d, .one .d, .one .d, .one .d, .one .d, .one .d], [(6900, ⟨.s .own pace m6900_2, 0, 0⟩), (9000, ⟨.v (.int .i64 m9000_2), 0, 0⟩), (9001, ⟨.v (.int .i64 m9001_2), 0, 0⟩), (9002, ⟨.v (.int .i64 m9002_2), 0, 0⟩)]⟩
def F30_l2 (k : Nat) (a0 : List (den pace)) (a1 : Int) : Nat → Bool → Int → Int → List (den pace) → Int → Int → Int → Option ((Bool × Int × Int × List (den pace) × Int × Int × Int))
  | 0, _, _, _, _, _, _, _ => none
  | n + 1, x7_2, x8_2, x10_2, m6900_2, m9000_2, m9001_2, m9002_2 =>
    cond (decide (x10_2 > 0))
      ((F60 k m9000_2 m9001_2 m9002_2).bind fun b4 =>
        F30_l2 k a0 a1 n x7_2 x8_2 (IntKind.i64.wrap (x10_2 - 1)) m6900_2 b4.1 b4.2.1 b4.2.2)
      (some (x7_2, x8_2, x10_2, m6900_2, m9000_2, m9001_2, m9002_2))
theorem F30_l2_rd {β : Type} (k n : Nat) (a0 : List (den pace)) (a1 : Int) (x7_2 : Bool) (x8_2 : Int) (x10_2 : Int) (m6900_2 : List (den pace)) (m9000_2 : Int) (m9001_2 : Int) (m9002_2 : Int) (KK : Ex → St → Option β) :
    loopG (F30_E k) Try.f30 [1, 1, 1, 1, 0, 1, 0, 0, 1, 0, 0, 1, 0, 1, 0, 1, 0] 2 KK (n + 1) (F30_s2 a0 a1 x7_2 x8_2 x10_2 m6900_2 m9000_2 m9001_2 m9002_2) =
    cond (decide (x10_2 > 0))
      ((F60 k m9000_2 m9001_2 m9002_2).bind fun b4 =>
        loopG (F30_E k) Try.f30 [1, 1, 1, 1, 0, 1, 0, 0, 1, 0, 0, 1, 0, 1, 0, 1, 0] 2 KK n (F30_s2 a0 a1 x7_2 x8_2 (IntKind.i64.wrap (x10_2 - 1)) m6900_2 b4.1 b4.2.1 b4.2.2))
      (KK (.exit 2) ⟨[.one (.s .ro pace a0), .one .d, .one .d, .one .d, .one .d, .one .d, .one (.a (.cell 6900) 0 0 none), .one (.v (.bool x7_2)), .one (.v (.int .i64 x8_2)), .one (.ptr (.cell 9000) 3 0), .one (.v (.int .i64 x10_2)), .one .d, .one .d, .one .d, .one .d, .one .d, .one .d, .one .d, .one .d, .one .d, .one .d, .one .d, .one .d, .one .d, .one .d, .one .d, .one .d, .one .d, .one .d, .one .d, .one .d, .one .d, .one .d, .one .d, .one .d, .one .d, .one .d, .one .d, .one .d, .one .d, .one .d, .one (.v (.int .i64 x10_2)), .one (.v (.bool false)), .one .d, .one .d, .one .d, .one .d, .one .d, .one .d, .one .d, .one .d, .one .d, .one .d, .one .d, .one .d], [(6900, ⟨.s .own pace m6900_2, 0, 0⟩), (9000, ⟨.v (.int .i64 m9000_2), 0, 0⟩), (9001, ⟨.v (.int .i64 m9001_2), 0, 0⟩), (9002, ⟨.v (.int .i64 m9002_2), 0, 0⟩)]⟩) := by kernel_rfl
theorem F30_l2_lp {β : Type} (k : Nat) (a0 : List (den pace)) (a1 : Int) (KK : Ex → St → Option β) (n : Nat) : ∀ (x7_2 : Bool) (x8_2 : Int) (x10_2 : Int) (m6900_2 : List (den pace)) (m9000_2 : Int) (m9001_2 : Int) (m9002_2 : Int), loopG (F30_E k) Try.f30 [1, 1, 1, 1, 0, 1, 0, 0, 1, 0, 0, 1, 0, 1, 0, 1, 0] 2 KK n (F30_s2 a0 a1 x7_2 x8_2 x10_2 m6900_2 m9000_2 m9001_2 m9002_2) =
    (F30_l2 k a0 a1 n x7_2 x8_2 x10_2 m6900_2 m9000_2 m9001_2 m9002_2).bind fun y2 => KK (.exit 2) ⟨[.one (.s .ro pace a0), .one .d, .one .d, .one .d, .one .d, .one .d, .one (.a (.cell 6900) 0 0 none), .one (.v (.bool y2.1)), .one (.v (.int .i64 y2.2.1)), .one (.ptr (.cell 9000) 3 0), .one (.v (.int .i64 y2.2.2.1)), .one .d, .one .d, .one .d, .one .d, .one .d, .one .d, .one .d, .one .d, .one .d, .one .d, .one .d, .one .d, .one .d, .one .d, .one .d, .one .d, .one .d, .one .d, .one .d, .one .d, .one .d, .one .d, .one .d, .one .d, .one .d, .one .d, .one .d, .one .d, .one .d, .one .d, .one (.v (.int .i64 y2.2.2.1)), .one (.v (.bool false)), .one .d, .one .d, .one .d, .one .d, .one .d, .one .d, .one .d, .one .d, .one .d, .one .d, .one .d, .one .d], [(6900, ⟨.s .own pace y2.2.2.2.1, 0, 0⟩), (9000, ⟨.v (.int .i64 y2.2.2.2.2.1), 0, 0⟩), (9001, ⟨.v (.int .i64 y2.2.2.2.2.2.1), 0, 0⟩), (9002, ⟨.v (.int .i64 y2.2.2.2.2.2.2), 0, 0⟩)]⟩ := by
  induction n with
  | zero => intros; rfl
  | succ n ih =>
    intros
    rw [F30_l2_rd, F30_l2]
    simp only [bind_cond, Option.bind_assoc, Option.bind_some, Option.bind_none, Option.bind_fun_some, ih]
def F30_s0 (a0 : List (den pace)) (a1 : Int) (x7_0 : Bool) (x8_0 : Int) (m6900_0 : List (den pace)) : St := ⟨[.one (.s .ro pace a0), .one .d, .one .d, .one .d, .one .d, .one .d, .one (.a (.cell 6900) 0 0 none), .one (.v (.bool x7_0)), .one (.v (.int .i64 x8_0)), .one .d, .one .d, .one .d, .one .d, .one .d, .one .d, .one .d, .one .d, .one .d, .one .d, .one .d, .one .d, .one .d, .one .d, .one .d, .one .d, .one .d, .one .d, .one .d, .one .d, .one .d, .one .d, .one .d, .one .d, .one .d, .one .d, .one .d, .one .d, .one .d, .one .d, .one .d, .one .d, .one .d, .one .d, .one .d, .one .d, .one .d, .one .d, .one .d, .one .d, .one .d, .one .d, .one .d, .one .d, .one .d, .one .d], [(6900, ⟨.s .own pace m6900_0, 0, 0⟩)]⟩
def F30_l0 (k : Nat) (a0 : List (den pace)) (a1 : Int) : Nat → Bool → Int → List (den pace) → Option (List (den pace) × Bool)
  | 0, _, _, _ => none
  | n + 1, x7_0, x8_0, m6900_0 =>
    cond (decide (x8_0 < ((a0.length : Nat) : Int)))
      (cond (decide (0 ≤ x8_0))
        (cond (decide (x8_0 < ((a0.length : Nat) : Int)))
          (cond (x7_0)
            (cond (decide (0 ≤ x8_0))
              (cond (decide (x8_0 < ((a0.length : Nat) : Int)))
                ((F30_l2 k a0 a1 k x7_0 x8_0 ((atI a0 x8_0).1) m6900_0 ((atI a0 x8_0).1) (((atI a0 x8_0).2).1) (((atI a0 x8_0).2).2)).bind fun y2 =>
                  cond (decide ((y2.2.2.2.1.length + [y2.2.2.2.2].length) * 24 ≤ 140737488355328))
                    (F30_l0 k a0 a1 n y2.1 (IntKind.i64.wrap (y2.2.1 + 1)) (y2.2.2.2.1 ++ [y2.2.2.2.2]))
                    (none))
                (none))
              (none))
            ((F61 k ((atI a0 x8_0).1) (((atI a0 x8_0).2).1) (((atI a0 x8_0).2).2)).bind fun b5 =>
              cond (decide ((m6900_0.length + [b5].length) * 24 ≤ 140737488355328))
                (F30_l0 k a0 a1 n x7_0 (IntKind.i64.wrap (x8_0 + 1)) (m6900_0 ++ [b5]))
                (none)))
          (none))
        (none))
      (some (m6900_0, x7_0))
theorem F30_l0_rd {β : Type} (k n : Nat) (a0 : List (den pace)) (a1 : Int) (x7_0 : Bool) (x8_0 : Int) (m6900_0 : List (den pace)) (K : A × List (List Leaf) → Option β) :
    loopG (F30_E k) Try.f30 [1, 1, 1, 1, 0, 1, 0] 0 (kontAt (F30_E k) [1, 1, 1, 1, 0, 1, 0] (bodyOf Try.f30) 0 (endC (F30_E k) Try.f30 [.one (.l (.s .ro pace a0)), .one (.l (.v (.int .i64 a1)))] K)) (n + 1) (F30_s0 a0 a1 x7_0 x8_0 m6900_0) =
    cond (decide (x8_0 < ((a0.length : Nat) : Int)))
      (cond (decide (0 ≤ x8_0))
        (cond (decide (x8_0 < ((a0.length : Nat) : Int)))
          (cond (x7_0)
            (cond (decide (0 ≤ x8_0))
              (cond (decide (x8_0 < ((a0.length : Nat) : Int)))
                (loopG (F30_E k) Try.f30 [1, 1, 1, 1, 0, 1, 0, 0, 1, 0, 0, 1, 0, 1, 0, 1, 0] 2 (kontAt (F30_E k) [1, 0, 0, 1, 0, 1, 0, 1, 0] (codeAt [1, 1, 1, 1, 0, 1, 0, 0] (bodyOf Try.f30)) 0 (roundG (F30_E k) Try.f30 [1, 1, 1, 1, 0, 1, 0] 0 (kontAt (F30_E k) [1, 1, 1, 1, 0, 1, 0] (bodyOf Try.f30) 0 (endC (F30_E k) Try.f30 [.one (.l (.s .ro pace a0)), .one (.l (.v (.int .i64 a1)))] K)) n)) k (F30_s2 a0 a1 x7_0 x8_0 ((atI a0 x8_0).1) m6900_0 ((atI a0 x8_0).1) (((atI a0 x8_0).2).1) (((atI a0 x8_0).2).2)))
                (none))
              (none))
            ((F61 k ((atI a0 x8_0).1) (((atI a0 x8_0).2).1) (((atI a0 x8_0).2).2)).bind fun b5 =>
              cond (decide ((m6900_0.length + [b5].length) * 24 ≤ 140737488355328))
                (loopG (F30_E k) Try.f30 [1, 1, 1, 1, 0, 1, 0] 0 (kontAt (F30_E k) [1, 1, 1, 1, 0, 1, 0] (bodyOf Try.f30) 0 (endC (F30_E k) Try.f30 [.one (.l (.s .ro pace a0)), .one (.l (.v (.int .i64 a1)))] K)) n (F30_s0 a0 a1 x7_0 (IntKind.i64.wrap (x8_0 + 1)) (m6900_0 ++ [b5])))
                (none)))
          (none))
        (none))
      (K (.tup [(false, [.s .own pace m6900_0]), (false, [.v (.bool x7_0)])], [])) := by kernel_rfl
theorem F30_l0_k0_0 {β : Type} (k n : Nat) (a0 : List (den pace)) (a1 : Int) (y2 : Bool × Int × Int × List (den pace) × Int × Int × Int) (K : A × List (List Leaf) → Option β) :
    (kontAt (F30_E k) [1, 0, 0, 1, 0, 1, 0, 1, 0] (codeAt [1, 1, 1, 1, 0, 1, 0, 0] (bodyOf Try.f30)) 0 (roundG (F30_E k) Try.f30 [1, 1, 1, 1, 0, 1, 0] 0 (kontAt (F30_E k) [1, 1, 1, 1, 0, 1, 0] (bodyOf Try.f30) 0 (endC (F30_E k) Try.f30 [.one (.l (.s .ro pace a0)), .one (.l (.v (.int .i64 a1)))] K)) n)) (.exit 2) ⟨[.one (.s .ro pace a0), .one .d, .one .d, .one .d, .one .d, .one .d, .one (.a (.cell 6900) 0 0 none), .one (.v (.bool y2.1)), .one (.v (.int .i64 y2.2.1)), .one (.ptr (.cell 9000) 3 0), .one (.v (.int .i64 y2.2.2.1)), .one .d, .one .d, .one .d, .one .d, .one .d, .one .d, .one .d, .one .d, .one .d, .one .d, .one .d, .one .d, .one .d, .one .d, .one .d, .one .d, .one .d, .one .d, .one .d, .one .d, .one .d, .one .d, .one .d, .one .d, .one .d, .one .d, .one .d, .one .d, .one .d, .one .d, .one (.v (.int .i64 y2.2.2.1)), .one (.v (.bool false)), .one .d, .one .d, .one .d, .one .d, .one .d, .one .d, .one .d, .one .d, .one .d, .one .d, .one .d, .one .d], [(6900, ⟨.s .own pace y2.2.2.2.1, 0, 0⟩), (9000, ⟨.v (.int .i64 y2.2.2.2.2.1), 0, 0⟩), (9001, ⟨.v (.int .i64 y2.2.2.2.2.2.1), 0, 0⟩), (9002, ⟨.v (.int .i64 y2.2.2.2.2.2.2), 0, 0⟩)]⟩ =
    cond (decide ((y2.2.2.2.1.length + [y2.2.2.2.2].length) * 24 ≤ 140737488355328))
      (loopG (F30_E k) Try.f30 [1, 1, 1, 1, 0, 1, 0] 0 (kontAt (F30_E k) [1, 1, 1, 1, 0, 1, 0] (bodyOf Try.f30) 0 (endC (F30_E k) Try.f30 [.one (.l (.s .ro pace a0)), .one (.l (.v (.int .i64 a1)))] K)) n (F30_s0 a0 a1 y2.1 (IntKind.i64.wrap (y2.2.1 + 1)) (y2.2.2.2.1 ++ [y2.2.2.2.2])))
      (none) := by kernel_rfl
theorem F30_l0_lp {β : Type} (k : Nat) (a0 : List (den pace)) (a1 : Int) (K : A × List (List Leaf) → Option β) (n : Nat) : ∀ (x7_0 : Bool) (x8_0 : Int) (m6900_0 : List (den pace)), loopG (F30_E k) Try.f30 [1, 1, 1, 1, 0, 1, 0] 0 (kontAt (F30_E k) [1, 1, 1, 1, 0, 1, 0] (bodyOf Try.f30) 0 (endC (F30_E k) Try.f30 [.one (.l (.s .ro pace a0)), .one (.l (.v (.int .i64 a1)))] K)) n (F30_s0 a0 a1 x7_0 x8_0 m6900_0) =
    (F30_l0 k a0 a1 n x7_0 x8_0 m6900_0).bind fun r => K (.tup [(false, [.s .own pace r.1]), (false, [.v (.bool r.2)])], []) := by
  induction n with
  | zero => intros; rfl
  | succ n ih =>
    intros
    rw [F30_l0_rd, F30_l0]
    simp only [bind_cond, Option.bind_assoc, Option.bind_some, Option.bind_none, Option.bind_fun_some, F30_l2_lp, F30_l0_k0_0, ih]
def F30 (k : Nat) (a0 : List (den pace)) (a1 : Int) : Option (List (den pace) × Bool) :=
  (F16 k a0).bind fun b1 =>
    cond ((!b1))
      (some ([], false))
      ((F47 k a1 1 1000).bind fun b2 =>
        cond ((!b2))
          (some ([], false))
          ((F22 k a0).bind fun b3 =>
            F30_l0 k a0 a1 k (decide (b3 ≤ a1)) 0 []))
theorem F30_st {β : Type} (k : Nat) (a0 : List (den pace)) (a1 : Int) (K : A × List (List Leaf) → Option β) : evalF (F30_E k) Try.f30 [.one (.l (.s .ro pace a0)), .one (.l (.v (.int .i64 a1)))] K =
    (F16 k a0).bind fun b1 =>
      cond ((!b1))
        (K (.tup [(false, [.s .own pace []]), (false, [.v (.bool false)])], []))
        ((F47 k a1 1 1000).bind fun b2 =>
          cond ((!b2))
            (K (.tup [(false, [.s .own pace []]), (false, [.v (.bool false)])], []))
            ((F22 k a0).bind fun b3 =>
              loopG (F30_E k) Try.f30 [1, 1, 1, 1, 0, 1, 0] 0 (kontAt (F30_E k) [1, 1, 1, 1, 0, 1, 0] (bodyOf Try.f30) 0 (endC (F30_E k) Try.f30 [.one (.l (.s .ro pace a0)), .one (.l (.v (.int .i64 a1)))] K)) k (F30_s0 a0 a1 (decide (b3 ≤ a1)) 0 []))) := by kernel_rfl
theorem F30_ev {β : Type} (k : Nat) (a0 : List (den pace)) (a1 : Int) (K : A × List (List Leaf) → Option β) : evalF (F30_E k) Try.f30 [.one (.l (.s .ro pace a0)), .one (.l (.v (.int .i64 a1)))] K = (F30 k a0 a1).bind fun r => K (.tup [(false, [.s .own pace r.1]), (false, [.v (.bool r.2)])], []) := by
  rw [F30_st, F30]
  simp only [bind_cond, Option.bind_assoc, Option.bind_some, Option.bind_none, Option.bind_fun_some, F30_l0_lp]
theorem F30_tOk (k : Nat) : TabFn Try.prog (F30_t k) := by
  constructor <;> intro f xs cr h <;> unfold F30_t at h <;> split at h <;> first | (simp only [Option.some.injEq] at h; subst h) | (simp at h; done)
  · exact F16_con _ _
  · exact F47_con _ _ _ _
  · exact F22_con _ _
  · exact F60_con _ _ _ _
  · exact F61_con _ _ _ _
  · exact .of (by kernel_rfl)
  · exact .of (by kernel_rfl)
  · exact .of (by kernel_rfl)
  · exact .of (by kernel_rfl)
  · exact .of (by kernel_rfl)
theorem F30_con (k : Nat) (a0 : List (den pace)) (a1 : Int) : Contract Try.prog 30 [.one (.l (.s .ro pace a0)), .one (.l (.v (.int .i64 a1)))] ⟨F30 k a0 a1, fun r => (.tup [(false, [.s .own pace r.1]), (false, [.v (.bool r.2)])], [])⟩ :=
  con_of (envOk (F30_tOk k) _ _ _ _) mixed Try.func30 rfl rfl (F30_ev k a0 a1 some)
/-! 86: slices.Clip[[]loop.example/netstack/impl.Pace,loop.example/netstack/impl.Pace] -/
abbrev F86_E (k : Nat) : Env := env noTab noHint .own [] k
def F86 (k : Nat) (a0 : List (den pace)) : Option (List (den pace)) :=
  cond ((decide (0 ≤ ((a0.length : Nat) : Int)) && decide (((a0.length : Nat) : Int) ≤ ((a0.length : Nat) : Int))))
    (cond (decide (((a0.length : Nat) : Int) = ((a0.length : Nat) : Int)))
      (some ((a0.take (((a0.length : Nat) : Int).toNat)).drop 0))
      (none))
    (none)
theorem F86_st {β : Type} (k : Nat) (a0 : List (den pace)) (K : A × List (List Leaf) → Option β) : evalF (F86_E k) Try.f86 [.one (.l (.s .own pace a0))] K =
    cond ((decide (0 ≤ ((a0.length : Nat) : Int)) && decide (((a0.length : Nat) : Int) ≤ ((a0.length : Nat) : Int))))
      (cond (decide (((a0.length : Nat) : Int) = ((a0.length : Nat) : Int)))
        (K (.one (.s .own pace ((a0.take (((a0.length : Nat) : Int).toNat)).drop 0)), []))
        (none))
      (none) := by kernel_rfl
theorem F86_ev {β : Type} (k : Nat) (a0 : List (den pace)) (K : A × List (List Leaf) → Option β) : evalF (F86_E k) Try.f86 [.one (.l (.s .own pace a0))] K = (F86 k a0).bind fun r => K (.one (.s .own pace r), []) := by
  rw [F86_st, F86]
  simp only [bind_cond, Option.bind_assoc, Option.bind_some, Option.bind_none, Option.bind_fun_some]
theorem F86_con (k : Nat) (a0 : List (den pace)) : Contract Try.prog 86 [.one (.l (.s .own pace a0))] ⟨F86 k a0, fun r => (.one (.s .own pace r), [])⟩ :=
  con_of (envOk .none _ _ _ _) mixed Try.func86 rfl rfl (F86_ev k a0 some)
/-! 62: loop.example/netstack/impl.clone[loop.example/netstack/impl.Pace] -/
def F62_t (k : Nat) : Tab
  | 86, [.one (.l (.s .own (.pair (.int .i64) (.pair (.int .i64) (.int .i64))) a0))] => some ⟨F86 k a0, fun r => (.one (.s .own pace r), [])⟩
  | _, _ => none
abbrev F62_E (k : Nat) : Env := env (F62_t k) noHint .own [] k
def F62 (k : Nat) (a0 : List (den pace)) : Option (List (den pace)) :=
  cond ((((a0.length : Nat) : Int) == 0))
    (some [])
    (cond (decide ((([] : List (den pace)).length + a0.length) * 24 ≤ 140737488355328))
      ((F86 k ([] ++ a0)).bind fun b1 =>
        some b1)
      (none))
theorem F62_st {β : Type} (k : Nat) (a0 : List (den pace)) (K : A × List (List Leaf) → Option β) : evalF (F62_E k) Try.f62 [.one (.l (.s .ro pace a0))] K =
    cond ((((a0.length : Nat) : Int) == 0))
      (K (.one (.s .own pace []), []))
      (cond (decide ((([] : List (den pace)).length + a0.length) * 24 ≤ 140737488355328))
        ((F86 k ([] ++ a0)).bind fun b1 =>
          K (.one (.s .own pace b1), []))
        (none)) := by kernel_rfl
theorem F62_ev {β : Type} (k : Nat) (a0 : List (den pace)) (K : A × List (List Leaf) → Option β) : evalF (F62_E k) Try.f62 [.one (.l (.s .ro pace a0))] K = (F62 k a0).bind fun r => K (.one (.s .own pace r), []) := by
  rw [F62_st, F62]
  simp only [bind_cond, Option.bind_assoc, Option.bind_some, Option.bind_none, Option.bind_fun_some]
theorem F62_tOk (k : Nat) : TabFn Try.prog (F62_t k) := by
  constructor <;> intro f xs cr h <;> unfold F62_t at h <;> split at h <;> first | (simp only [Option.some.injEq] at h; subst h) | (simp at h; done)
  · exact F86_con _ _
  · exact .of (by kernel_rfl)
theorem F62_con (k : Nat) (a0 : List (den pace)) : Contract Try.prog 62 [.one (.l (.s .ro pace a0))] ⟨F62 k a0, fun r => (.one (.s .own pace r), [])⟩ :=
  con_of (envOk (F62_tOk k) _ _ _ _) mixed Try.func62 rfl rfl (F62_ev k a0 some)
/-! 84: loop.example/netstack/impl.PaceLost -/
def F84_t (k : Nat) : Tab
  | 52, [.agg [.l (.v (.int .i64 a0_0)), .l (.v (.int .i64 a0_1)), .l (.v (.int .i64 a0_2))]] => some ⟨F52 k a0_0 a0_1 a0_2, fun r => (.one (.v (.bool r)), [])⟩
  | _, _ => none
abbrev F84_E (k : Nat) : Env := env (F84_t k) noHint .own [] k
def F84 (k : Nat) (a0_0 : Int) (a0_1 : Int) (a0_2 : Int) : Option (Int × Int × Int) :=
  (F52 k a0_0 a0_1 a0_2).bind fun b1 =>
    cond ((!b1))
      (some (0, 0, 0))
      (some ((if 2 < (IntKind.i64.wrap (a0_0.tdiv 2)) then IntKind.i64.wrap (a0_0.tdiv 2) else 2), (if 2 < (IntKind.i64.wrap (a0_0.tdiv 2)) then IntKind.i64.wrap (a0_0.tdiv 2) else 2), 0))
theorem F84_st {β : Type} (k : Nat) (a0_0 : Int) (a0_1 : Int) (a0_2 : Int) (K : A × List (List Leaf) → Option β) : evalF (F84_E k) Try.f84 [.agg [.l (.v (.int .i64 a0_0)), .l (.v (.int .i64 a0_1)), .l (.v (.int .i64 a0_2))]] K =
    (F52 k a0_0 a0_1 a0_2).bind fun b1 =>
      cond ((!b1))
        (K (.agg [.v (.int .i64 0), .v (.int .i64 0), .v (.int .i64 0)], []))
        (K (.agg [.v (.int .i64 (if 2 < (IntKind.i64.wrap (a0_0.tdiv 2)) then IntKind.i64.wrap (a0_0.tdiv 2) else 2)), .v (.int .i64 (if 2 < (IntKind.i64.wrap (a0_0.tdiv 2)) then IntKind.i64.wrap (a0_0.tdiv 2) else 2)), .v (.int .i64 0)], [])) := by kernel_rfl
theorem F84_ev {β : Type} (k : Nat) (a0_0 : Int) (a0_1 : Int) (a0_2 : Int) (K : A × List (List Leaf) → Option β) : evalF (F84_E k) Try.f84 [.agg [.l (.v (.int .i64 a0_0)), .l (.v (.int .i64 a0_1)), .l (.v (.int .i64 a0_2))]] K = (F84 k a0_0 a0_1 a0_2).bind fun r => K (.agg [.v (.int .i64 r.1), .v (.int .i64 r.2.1), .v (.int .i64 r.2.2)], []) := by
  rw [F84_st, F84]
  simp only [bind_cond, Option.bind_assoc, Option.bind_some, Option.bind_none, Option.bind_fun_some]
theorem F84_tOk (k : Nat) : TabFn Try.prog (F84_t k) := by
  constructor <;> intro f xs cr h <;> unfold F84_t at h <;> split at h <;> first | (simp only [Option.some.injEq] at h; subst h) | (simp at h; done)
  · exact F52_con _ _ _ _
  · exact .of (by kernel_rfl)
theorem F84_con (k : Nat) (a0_0 : Int) (a0_1 : Int) (a0_2 : Int) : Contract Try.prog 84 [.agg [.l (.v (.int .i64 a0_0)), .l (.v (.int .i64 a0_1)), .l (.v (.int .i64 a0_2))]] ⟨F84 k a0_0 a0_1 a0_2, fun r => (.agg [.v (.int .i64 r.1), .v (.int .i64 r.2.1), .v (.int .i64 r.2.2)], [])⟩ :=
  con_of (envOk (F84_tOk k) _ _ _ _) mixed Try.func84 rfl rfl (F84_ev k a0_0 a0_1 a0_2 some)
/-! 85: loop.example/netstack/impl.PaceHeard -/
def F85_t (k : Nat) : Tab
  | 52, [.agg [.l (.v (.int .i64 a0_0)), .l (.v (.int .i64 a0_1)), .l (.v (.int .i64 a0_2))]] => some ⟨F52 k a0_0 a0_1 a0_2, fun r => (.one (.v (.bool r)), [])⟩
  | _, _ => none
abbrev F85_E (k : Nat) : Env := env (F85_t k) noHint .own [] k
def F85 (k : Nat) (a0_0 : Int) (a0_1 : Int) (a0_2 : Int) : Option (Int × Int × Int) :=
  (F52 k a0_0 a0_1 a0_2).bind fun b1 =>
    cond ((!b1))
      (some (0, 0, 0))
      (cond (decide (a0_0 < a0_1))
        (some (IntKind.i64.wrap (a0_0 + 1), a0_1, 0))
        (cond (decide ((IntKind.i64.wrap (a0_2 + 1)) < a0_0))
          (some (a0_0, a0_1, IntKind.i64.wrap (a0_2 + 1)))
          (some ((if (IntKind.i64.wrap (a0_0 + 1)) < 64 then IntKind.i64.wrap (a0_0 + 1) else 64), a0_1, 0))))
theorem F85_st {β : Type} (k : Nat) (a0_0 : Int) (a0_1 : Int) (a0_2 : Int) (K : A × List (List Leaf) → Option β) : evalF (F85_E k) Try.f85 [.agg [.l (.v (.int .i64 a0_0)), .l (.v (.int .i64 a0_1)), .l (.v (.int .i64 a0_2))]] K =
    (F52 k a0_0 a0_1 a0_2).bind fun b1 =>
      cond ((!b1))
        (K (.agg [.v (.int .i64 0), .v (.int .i64 0), .v (.int .i64 0)], []))
        (cond (decide (a0_0 < a0_1))
          (K (.agg [.v (.int .i64 (IntKind.i64.wrap (a0_0 + 1))), .v (.int .i64 a0_1), .v (.int .i64 0)], []))
          (cond (decide ((IntKind.i64.wrap (a0_2 + 1)) < a0_0))
            (K (.agg [.v (.int .i64 a0_0), .v (.int .i64 a0_1), .v (.int .i64 (IntKind.i64.wrap (a0_2 + 1)))], []))
            (K (.agg [.v (.int .i64 (if (IntKind.i64.wrap (a0_0 + 1)) < 64 then IntKind.i64.wrap (a0_0 + 1) else 64)), .v (.int .i64 a0_1), .v (.int .i64 0)], [])))) := by kernel_rfl
theorem F85_ev {β : Type} (k : Nat) (a0_0 : Int) (a0_1 : Int) (a0_2 : Int) (K : A × List (List Leaf) → Option β) : evalF (F85_E k) Try.f85 [.agg [.l (.v (.int .i64 a0_0)), .l (.v (.int .i64 a0_1)), .l (.v (.int .i64 a0_2))]] K = (F85 k a0_0 a0_1 a0_2).bind fun r => K (.agg [.v (.int .i64 r.1), .v (.int .i64 r.2.1), .v (.int .i64 r.2.2)], []) := by
  rw [F85_st, F85]
  simp only [bind_cond, Option.bind_assoc, Option.bind_some, Option.bind_none, Option.bind_fun_some]
theorem F85_tOk (k : Nat) : TabFn Try.prog (F85_t k) := by
  constructor <;> intro f xs cr h <;> unfold F85_t at h <;> split at h <;> first | (simp only [Option.some.injEq] at h; subst h) | (simp at h; done)
  · exact F52_con _ _ _ _
  · exact .of (by kernel_rfl)
theorem F85_con (k : Nat) (a0_0 : Int) (a0_1 : Int) (a0_2 : Int) : Contract Try.prog 85 [.agg [.l (.v (.int .i64 a0_0)), .l (.v (.int .i64 a0_1)), .l (.v (.int .i64 a0_2))]] ⟨F85 k a0_0 a0_1 a0_2, fun r => (.agg [.v (.int .i64 r.1), .v (.int .i64 r.2.1), .v (.int .i64 r.2.2)], [])⟩ :=
  con_of (envOk (F85_tOk k) _ _ _ _) mixed Try.func85 rfl rfl (F85_ev k a0_0 a0_1 a0_2 some)
/-! 59: loop.example/netstack/impl.sharedStep -/
def F59_h : Nat → Hint
  | 0 => ⟨[(6, .plain), (7, .plain), (16, .plain), (17, .plain), (18, .plain)], [(15000, .plain)]⟩
  | 2 => ⟨[(6, .plain), (7, .plain), (8, .plain), (16, .plain), (17, .plain), (18, .plain), (31, .plain), (32, .plain)], [(15000, .plain)]⟩
  | _ => ⟨[], []⟩
def F59_t (k : Nat) : Tab
  | 54, [.one (.l (.s .ro (.pair (.int .i64) (.pair (.int .i64) (.int .i64))) a0))] => some ⟨F54 k a0, fun r => (.one (.v (.int .i64 r)), [])⟩
  | 62, [.one (.l (.s .ro (.pair (.int .i64) (.pair (.int .i64) (.int .i64))) a0))] => some ⟨F62 k a0, fun r => (.one (.s .own pace r), [])⟩
  | 84, [.agg [.l (.v (.int .i64 a0_0)), .l (.v (.int .i64 a0_1)), .l (.v (.int .i64 a0_2))]] => some ⟨F84 k a0_0 a0_1 a0_2, fun r => (.agg [.v (.int .i64 r.1), .v (.int .i64 r.2.1), .v (.int .i64 r.2.2)], [])⟩
  | 85, [.agg [.l (.v (.int .i64 a0_0)), .l (.v (.int .i64 a0_1)), .l (.v (.int .i64 a0_2))]] => some ⟨F85 k a0_0 a0_1 a0_2, fun r => (.agg [.v (.int .i64 r.1), .v (.int .i64 r.2.1), .v (.int .i64 r.2.2)], [])⟩
  | _, _ => none
abbrev F59_E (k : Nat) : Env := env (F59_t k) F59_h .own [] k
def F59_s2 (a0 : List (den pace)) (a1 : Int) (x6_2 : Bool) (x8_2 : Int) (x17_2 : Int) (x18_2 : Int) (x31_2 : Int) (x32_2 : Int) (m15000_2 : List (den pace)) : St := ⟨[.one .d, .one .d, .one .d, .one .d, .one .d, .one .d, .one (.v (.bool x6_2)), .one (.a (.cell 15000) 0 0 none), .one (.v (.int .i64 x8_2)), .one .d, .one .d, .one .d, .one .d, .one .d, .one .d, .one .d, .one (.a (.cell 15000) 0 0 none), .one (.v (.int .i64 x17_2)), .one (.v (.int .i64 x18_2)), .one .d, .one .d, .one .d, .one .d, .one .d, .one .d, .one .d, .one .d, .one .d, .one .d, .one .d, .one .d, .one (.v (.int .i64 x31_2)), .one (.v (.int .i64 x32_2)), .one .d, .one .d, .one .d, .one .d, .one .d, .one .d, .one .d, .one .d, .one .d, .one .d, .one .d, .one .d, .one .d], [(15000, ⟨.s .own pace m15000_2, 0, 0⟩)]⟩
def F59_l2 (k : Nat) (a0 : List (den pace)) (a1 : Int) : Nat → Bool → Int → Int → Int → Int → Int → List (den pace) → Option ((Bool × Int × Int × Int × Int × Int × List (den pace)))
  | 0, _, _, _, _, _, _, _ => none
  | n + 1, x6_2, x8_2, x17_2, x18_2, x31_2, x32_2, m15000_2 =>
    cond (decide (x32_2 < x31_2))
      (cond (decide (0 ≤ x8_2))
        (cond (decide (x8_2 < ((m15000_2.length : Nat) : Int)))
          ((F85 k ((atI m15000_2 x8_2).1) (((atI m15000_2 x8_2).2).1) (((atI m15000_2 x8_2).2).2)).bind fun b4 =>
            cond (decide (0 ≤ x8_2))
              (cond (decide (x8_2 < ((m15000_2.length : Nat) : Int)))
                (F59_l2 k a0 a1 n x6_2 x8_2 x17_2 x18_2 x31_2 (IntKind.i64.wrap (x32_2 + 1)) (m15000_2.set x8_2.toNat b4))
                (none))
              (none))
          (none))
        (none))
      (some (x6_2, x8_2, x17_2, x18_2, x31_2, x32_2, m15000_2))
theorem F59_l2_rd {β : Type} (k n : Nat) (a0 : List (den pace)) (a1 : Int) (x6_2 : Bool) (x8_2 : Int) (x17_2 : Int) (x18_2 : Int) (x31_2 : Int) (x32_2 : Int) (m15000_2 : List (den pace)) (KK : Ex → St → Option β) :
    loopG (F59_E k) Try.f59 [1, 1, 1, 0, 1, 0, 0, 1, 1, 0, 0, 1, 1, 1, 0] 2 KK (n + 1) (F59_s2 a0 a1 x6_2 x8_2 x17_2 x18_2 x31_2 x32_2 m15000_2) =
    cond (decide (x32_2 < x31_2))
      (cond (decide (0 ≤ x8_2))
        (cond (decide (x8_2 < ((m15000_2.length : Nat) : Int)))
          ((F85 k ((atI m15000_2 x8_2).1) (((atI m15000_2 x8_2).2).1) (((atI m15000_2 x8_2).2).2)).bind fun b4 =>
            cond (decide (0 ≤ x8_2))
              (cond (decide (x8_2 < ((m15000_2.length : Nat) : Int)))
                (loopG (F59_E k) Try.f59 [1, 1, 1, 0, 1, 0, 0, 1, 1, 0, 0, 1, 1, 1, 0] 2 KK n (F59_s2 a0 a1 x6_2 x8_2 x17_2 x18_2 x31_2 (IntKind.i64.wrap (x32_2 + 1)) (m15000_2.set x8_2.toNat b4)))
                (none))
              (none))
          (none))
        (none))
      (KK (.exit 2) ⟨[.one .d, .one .d, .one .d, .one .d, .one .d, .one .d, .one (.v (.bool x6_2)), .one (.a (.cell 15000) 0 0 none), .one (.v (.int .i64 x8_2)), .one .d, .one .d, .one .d, .one .d, .one .d, .one .d, .one .d, .one (.a (.cell 15000) 0 0 none), .one (.v (.int .i64 x17_2)), .one (.v (.int .i64 x18_2)), .one .d, .one .d, .one .d, .one .d, .one .d, .one .d, .one .d, .one .d, .one .d, .one .d, .one .d, .one .d, .one (.v (.int .i64 x31_2)), .one (.v (.int .i64 x32_2)), .one (.v (.bool false)), .one .d, .one .d, .one .d, .one .d, .one .d, .one .d, .one .d, .one .d, .one .d, .one .d, .one .d, .one .d], [(15000, ⟨.s .own pace m15000_2, 0, 0⟩)]⟩) := by kernel_rfl
theorem F59_l2_lp {β : Type} (k : Nat) (a0 : List (den pace)) (a1 : Int) (KK : Ex → St → Option β) (n : Nat) : ∀ (x6_2 : Bool) (x8_2 : Int) (x17_2 : Int) (x18_2 : Int) (x31_2 : Int) (x32_2 : Int) (m15000_2 : List (den pace)), loopG (F59_E k) Try.f59 [1, 1, 1, 0, 1, 0, 0, 1, 1, 0, 0, 1, 1, 1, 0] 2 KK n (F59_s2 a0 a1 x6_2 x8_2 x17_2 x18_2 x31_2 x32_2 m15000_2) =
    (F59_l2 k a0 a1 n x6_2 x8_2 x17_2 x18_2 x31_2 x32_2 m15000_2).bind fun y2 => KK (.exit 2) ⟨[.one .d, .one .d, .one .d, .one .d, .one .d, .one .d, .one (.v (.bool y2.1)), .one (.a (.cell 15000) 0 0 none), .one (.v (.int .i64 y2.2.1)), .one .d, .one .d, .one .d, .one .d, .one .d, .one .d, .one .d, .one (.a (.cell 15000) 0 0 none), .one (.v (.int .i64 y2.2.2.1)), .one (.v (.int .i64 y2.2.2.2.1)), .one .d, .one .d, .one .d, .one .d, .one .d, .one .d, .one .d, .one .d, .one .d, .one .d, .one .d, .one .d, .one (.v (.int .i64 y2.2.2.2.2.1)), .one (.v (.int .i64 y2.2.2.2.2.2.1)), .one (.v (.bool false)), .one .d, .one .d, .one .d, .one .d, .one .d, .one .d, .one .d, .one .d, .one .d, .one .d, .one .d, .one .d], [(15000, ⟨.s .own pace y2.2.2.2.2.2.2, 0, 0⟩)]⟩ := by
  induction n with
  | zero => intros; rfl
  | succ n ih =>
    intros
    rw [F59_l2_rd, F59_l2]
    simp only [bind_cond, Option.bind_assoc, Option.bind_some, Option.bind_none, Option.bind_fun_some, ih]
def F59_s0 (a0 : List (den pace)) (a1 : Int) (x6_0 : Bool) (x17_0 : Int) (x18_0 : Int) (m15000_0 : List (den pace)) : St := ⟨[.one .d, .one .d, .one .d, .one .d, .one .d, .one .d, .one (.v (.bool x6_0)), .one (.a (.cell 15000) 0 0 none), .one .d, .one .d, .one .d, .one .d, .one .d, .one .d, .one .d, .one .d, .one (.a (.cell 15000) 0 0 none), .one (.v (.int .i64 x17_0)), .one (.v (.int .i64 x18_0)), .one .d, .one .d, .one .d, .one .d, .one .d, .one .d, .one .d, .one .d, .one .d, .one .d, .one .d, .one .d, .one .d, .one .d, .one .d, .one .d, .one .d, .one .d, .one .d, .one .d, .one .d, .one .d, .one .d, .one .d, .one .d, .one .d, .one .d], [(15000, ⟨.s .own pace m15000_0, 0, 0⟩)]⟩
def F59_l0 (k : Nat) (a0 : List (den pace)) (a1 : Int) : Nat → Bool → Int → Int → List (den pace) → Option (List (den pace) × Bool)
  | 0, _, _, _, _ => none
  | n + 1, x6_0, x17_0, x18_0, m15000_0 =>
    cond (decide (x18_0 < x17_0))
      (cond (decide (0 ≤ x18_0))
        (cond (decide (x18_0 < ((m15000_0.length : Nat) : Int)))
          (cond ((!x6_0))
            ((F84 k ((atI m15000_0 x18_0).1) (((atI m15000_0 x18_0).2).1) (((atI m15000_0 x18_0).2).2)).bind fun b3 =>
              cond (decide (0 ≤ x18_0))
                (cond (decide (x18_0 < ((m15000_0.length : Nat) : Int)))
                  (F59_l0 k a0 a1 n x6_0 x17_0 (IntKind.i64.wrap (x18_0 + 1)) (m15000_0.set x18_0.toNat b3))
                  (none))
                (none))
            ((F59_l2 k a0 a1 k x6_0 x18_0 x17_0 x18_0 ((atI m15000_0 x18_0).1) 0 m15000_0).bind fun y2 =>
              F59_l0 k a0 a1 n y2.1 y2.2.2.1 (IntKind.i64.wrap (y2.2.2.2.1 + 1)) y2.2.2.2.2.2.2))
          (none))
        (none))
      (some (m15000_0, x6_0))
theorem F59_l0_rd {β : Type} (k n : Nat) (a0 : List (den pace)) (a1 : Int) (x6_0 : Bool) (x17_0 : Int) (x18_0 : Int) (m15000_0 : List (den pace)) (K : A × List (List Leaf) → Option β) :
    loopG (F59_E k) Try.f59 [1, 1, 1, 0, 1, 0] 0 (kontAt (F59_E k) [1, 1, 1, 0, 1, 0] (bodyOf Try.f59) 0 (endC (F59_E k) Try.f59 [.one (.l (.s .ro pace a0)), .one (.l (.v (.int .i64 a1)))] K)) (n + 1) (F59_s0 a0 a1 x6_0 x17_0 x18_0 m15000_0) =
    cond (decide (x18_0 < x17_0))
      (cond (decide (0 ≤ x18_0))
        (cond (decide (x18_0 < ((m15000_0.length : Nat) : Int)))
          (cond ((!x6_0))
            ((F84 k ((atI m15000_0 x18_0).1) (((atI m15000_0 x18_0).2).1) (((atI m15000_0 x18_0).2).2)).bind fun b3 =>
              cond (decide (0 ≤ x18_0))
                (cond (decide (x18_0 < ((m15000_0.length : Nat) : Int)))
                  (loopG (F59_E k) Try.f59 [1, 1, 1, 0, 1, 0] 0 (kontAt (F59_E k) [1, 1, 1, 0, 1, 0] (bodyOf Try.f59) 0 (endC (F59_E k) Try.f59 [.one (.l (.s .ro pace a0)), .one (.l (.v (.int .i64 a1)))] K)) n (F59_s0 a0 a1 x6_0 x17_0 (IntKind.i64.wrap (x18_0 + 1)) (m15000_0.set x18_0.toNat b3)))
                  (none))
                (none))
            (loopG (F59_E k) Try.f59 [1, 1, 1, 0, 1, 0, 0, 1, 1, 0, 0, 1, 1, 1, 0] 2 (kontAt (F59_E k) [1, 1, 0, 0, 1, 1, 1, 0] (codeAt [1, 1, 1, 0, 1, 0, 0] (bodyOf Try.f59)) 0 (roundG (F59_E k) Try.f59 [1, 1, 1, 0, 1, 0] 0 (kontAt (F59_E k) [1, 1, 1, 0, 1, 0] (bodyOf Try.f59) 0 (endC (F59_E k) Try.f59 [.one (.l (.s .ro pace a0)), .one (.l (.v (.int .i64 a1)))] K)) n)) k (F59_s2 a0 a1 x6_0 x18_0 x17_0 x18_0 ((atI m15000_0 x18_0).1) 0 m15000_0)))
          (none))
        (none))
      (K (.tup [(false, [.s .own pace m15000_0]), (false, [.v (.bool x6_0)])], [])) := by kernel_rfl
theorem F59_l0_k0_0 {β : Type} (k n : Nat) (a0 : List (den pace)) (a1 : Int) (y2 : Bool × Int × Int × Int × Int × Int × List (den pace)) (K : A × List (List Leaf) → Option β) :
    (kontAt (F59_E k) [1, 1, 0, 0, 1, 1, 1, 0] (codeAt [1, 1, 1, 0, 1, 0, 0] (bodyOf Try.f59)) 0 (roundG (F59_E k) Try.f59 [1, 1, 1, 0, 1, 0] 0 (kontAt (F59_E k) [1, 1, 1, 0, 1, 0] (bodyOf Try.f59) 0 (endC (F59_E k) Try.f59 [.one (.l (.s .ro pace a0)), .one (.l (.v (.int .i64 a1)))] K)) n)) (.exit 2) ⟨[.one .d, .one .d, .one .d, .one .d, .one .d, .one .d, .one (.v (.bool y2.1)), .one (.a (.cell 15000) 0 0 none), .one (.v (.int .i64 y2.2.1)), .one .d, .one .d, .one .d, .one .d, .one .d, .one .d, .one .d, .one (.a (.cell 15000) 0 0 none), .one (.v (.int .i64 y2.2.2.1)), .one (.v (.int .i64 y2.2.2.2.1)), .one .d, .one .d, .one .d, .one .d, .one .d, .one .d, .one .d, .one .d, .one .d, .one .d, .one .d, .one .d, .one (.v (.int .i64 y2.2.2.2.2.1)), .one (.v (.int .i64 y2.2.2.2.2.2.1)), .one (.v (.bool false)), .one .d, .one .d, .one .d, .one .d, .one .d, .one .d, .one .d, .one .d, .one .d, .one .d, .one .d, .one .d], [(15000, ⟨.s .own pace y2.2.2.2.2.2.2, 0, 0⟩)]⟩ =
    loopG (F59_E k) Try.f59 [1, 1, 1, 0, 1, 0] 0 (kontAt (F59_E k) [1, 1, 1, 0, 1, 0] (bodyOf Try.f59) 0 (endC (F59_E k) Try.f59 [.one (.l (.s .ro pace a0)), .one (.l (.v (.int .i64 a1)))] K)) n (F59_s0 a0 a1 y2.1 y2.2.2.1 (IntKind.i64.wrap (y2.2.2.2.1 + 1)) y2.2.2.2.2.2.2) := by kernel_rfl
theorem F59_l0_lp {β : Type} (k : Nat) (a0 : List (den pace)) (a1 : Int) (K : A × List (List Leaf) → Option β) (n : Nat) : ∀ (x6_0 : Bool) (x17_0 : Int) (x18_0 : Int) (m15000_0 : List (den pace)), loopG (F59_E k) Try.f59 [1, 1, 1, 0, 1, 0] 0 (kontAt (F59_E k) [1, 1, 1, 0, 1, 0] (bodyOf Try.f59) 0 (endC (F59_E k) Try.f59 [.one (.l (.s .ro pace a0)), .one (.l (.v (.int .i64 a1)))] K)) n (F59_s0 a0 a1 x6_0 x17_0 x18_0 m15000_0) =
    (F59_l0 k a0 a1 n x6_0 x17_0 x18_0 m15000_0).bind fun r => K (.tup [(false, [.s .own pace r.1]), (false, [.v (.bool r.2)])], []) := by
  induction n with
  | zero => intros; rfl
  | succ n ih =>
    intros
    rw [F59_l0_rd, F59_l0]
    simp only [bind_cond, Option.bind_assoc, Option.bind_some, Option.bind_none, Option.bind_fun_some, F59_l2_lp, F59_l0_k0_0, ih]
def F59 (k : Nat) (a0 : List (den pace)) (a1 : Int) : Option (List (den pace) × Bool) :=
  (F54 k a0).bind fun b1 =>
    (F62 k a0).bind fun b2 =>
      F59_l0 k a0 a1 k (decide (b1 ≤ a1)) ((b2.length : Nat) : Int) 0 b2
theorem F59_st {β : Type} (k : Nat) (a0 : List (den pace)) (a1 : Int) (K : A × List (List Leaf) → Option β) : evalF (F59_E k) Try.f59 [.one (.l (.s .ro pace a0)), .one (.l (.v (.int .i64 a1)))] K =
    (F54 k a0).bind fun b1 =>
      (F62 k a0).bind fun b2 =>
        loopG (F59_E k) Try.f59 [1, 1, 1, 0, 1, 0] 0 (kontAt (F59_E k) [1, 1, 1, 0, 1, 0] (bodyOf Try.f59) 0 (endC (F59_E k) Try.f59 [.one (.l (.s .ro pace a0)), .one (.l (.v (.int .i64 a1)))] K)) k (F59_s0 a0 a1 (decide (b1 ≤ a1)) ((b2.length : Nat) : Int) 0 b2) := by kernel_rfl
theorem F59_ev {β : Type} (k : Nat) (a0 : List (den pace)) (a1 : Int) (K : A × List (List Leaf) → Option β) : evalF (F59_E k) Try.f59 [.one (.l (.s .ro pace a0)), .one (.l (.v (.int .i64 a1)))] K = (F59 k a0 a1).bind fun r => K (.tup [(false, [.s .own pace r.1]), (false, [.v (.bool r.2)])], []) := by
  rw [F59_st, F59]
  simp only [bind_cond, Option.bind_assoc, Option.bind_some, Option.bind_none, Option.bind_fun_some, F59_l0_lp]
theorem F59_tOk (k : Nat) : TabFn Try.prog (F59_t k) := by
  constructor <;> intro f xs cr h <;> unfold F59_t at h <;> split at h <;> first | (simp only [Option.some.injEq] at h; subst h) | (simp at h; done)
  · exact F54_con _ _
  · exact F62_con _ _
  · exact F84_con _ _ _ _
  · exact F85_con _ _ _ _
  · exact .of (by kernel_rfl)
  · exact .of (by kernel_rfl)
  · exact .of (by kernel_rfl)
  · exact .of (by kernel_rfl)
theorem F59_con (k : Nat) (a0 : List (den pace)) (a1 : Int) : Contract Try.prog 59 [.one (.l (.s .ro pace a0)), .one (.l (.v (.int .i64 a1)))] ⟨F59 k a0 a1, fun r => (.tup [(false, [.s .own pace r.1]), (false, [.v (.bool r.2)])], [])⟩ :=
  con_of (envOk (F59_tOk k) _ _ _ _) mixed Try.func59 rfl rfl (F59_ev k a0 a1 some)
/-! 29: loop.example/netstack/impl.SharedStep -/
def F29_t (k : Nat) : Tab
  | 18, [.one (.l (.s .ro (.pair (.int .i64) (.pair (.int .i64) (.int .i64))) a0))] => some ⟨F18 k a0, fun r => (.one (.v (.bool r)), [])⟩
  | 49, [.one (.l (.v (.int .i64 a0))), .one (.l (.v (.int .i64 a1))), .one (.l (.v (.int .i64 a2)))] => some ⟨F49 k a0 a1 a2, fun r => (.one (.v (.bool r)), [])⟩
  | 59, [.one (.l (.s .ro (.pair (.int .i64) (.pair (.int .i64) (.int .i64))) a0)), .one (.l (.v (.int .i64 a1)))] => some ⟨F59 k a0 a1, fun r => (.tup [(false, [.s .own pace r.1]), (false, [.v (.bool r.2)])], [])⟩
  | _, _ => none
abbrev F29_E (k : Nat) : Env := env (F29_t k) noHint .own [] k
def F29 (k : Nat) (a0 : List (den pace)) (a1 : Int) : Option (List (den pace) × Bool) :=
  (F18 k a0).bind fun b1 =>
    cond ((!b1))
      (some ([], false))
      ((F49 k a1 1 1000).bind fun b2 =>
        cond ((!b2))
          (some ([], false))
          ((F59 k a0 a1).bind fun b3 =>
            some (b3.1, b3.2)))
theorem F29_st {β : Type} (k : Nat) (a0 : List (den pace)) (a1 : Int) (K : A × List (List Leaf) → Option β) : evalF (F29_E k) Try.f29 [.one (.l (.s .ro pace a0)), .one (.l (.v (.int .i64 a1)))] K =
    (F18 k a0).bind fun b1 =>
      cond ((!b1))
        (K (.tup [(false, [.s .own pace []]), (false, [.v (.bool false)])], []))
        ((F49 k a1 1 1000).bind fun b2 =>
          cond ((!b2))
            (K (.tup [(false, [.s .own pace []]), (false, [.v (.bool false)])], []))
            ((F59 k a0 a1).bind fun b3 =>
              K (.tup [(false, [.s .own pace b3.1]), (false, [.v (.bool b3.2)])], []))) := by kernel_rfl
theorem F29_ev {β : Type} (k : Nat) (a0 : List (den pace)) (a1 : Int) (K : A × List (List Leaf) → Option β) : evalF (F29_E k) Try.f29 [.one (.l (.s .ro pace a0)), .one (.l (.v (.int .i64 a1)))] K = (F29 k a0 a1).bind fun r => K (.tup [(false, [.s .own pace r.1]), (false, [.v (.bool r.2)])], []) := by
  rw [F29_st, F29]
  simp only [bind_cond, Option.bind_assoc, Option.bind_some, Option.bind_none, Option.bind_fun_some]
theorem F29_tOk (k : Nat) : TabFn Try.prog (F29_t k) := by
  constructor <;> intro f xs cr h <;> unfold F29_t at h <;> split at h <;> first | (simp only [Option.some.injEq] at h; subst h) | (simp at h; done)
  · exact F18_con _ _
  · exact F49_con _ _ _ _
  · exact F59_con _ _ _
  · exact .of (by kernel_rfl)
  · exact .of (by kernel_rfl)
  · exact .of (by kernel_rfl)
theorem F29_con (k : Nat) (a0 : List (den pace)) (a1 : Int) : Contract Try.prog 29 [.one (.l (.s .ro pace a0)), .one (.l (.v (.int .i64 a1)))] ⟨F29 k a0 a1, fun r => (.tup [(false, [.s .own pace r.1]), (false, [.v (.bool r.2)])], [])⟩ :=
  con_of (envOk (F29_tOk k) _ _ _ _) mixed Try.func29 rfl rfl (F29_ev k a0 a1 some)
/-! 31: loop.example/netstack/laws.markPaceS -/
def F31_h : Nat → Hint
  | 0 => ⟨[(0, .plain), (1, .plain), (5, .plain)], [(0, .plain)]⟩
  | _ => ⟨[], []⟩
abbrev F31_E (k : Nat) : Env := env noTab F31_h .own [(true, 0)] k
def F31_s0 (a0 : List (den pace)) (a1 : Int) (x1_0 : Int) (x5_0 : Int) (m0_0 : List (den pace)) : St := ⟨[.one (.a (.cell 0) 0 0 none), .one (.v (.int .i64 x1_0)), .one .d, .one .d, .one .d, .one (.v (.int .i64 x5_0)), .one .d, .one .d, .one .d, .one .d, .one .d, .one .d, .one .d, .one .d, .one .d, .one .d, .one .d, .one .d, .one .d, .one .d, .one .d, .one .d, .one .d, .one .d, .one .d, .one .d, .one .d, .one .d, .one .d, .one .d, .one .d, .one .d, .one .d, .one .d], [(0, ⟨.s .own pace m0_0, 0, 0⟩)]⟩
def F31_l0 (k : Nat) (a0 : List (den pace)) (a1 : Int) : Nat → Int → Int → List (den pace) → Option (Int × List (den pace))
  | 0, _, _, _ => none
  | n + 1, x1_0, x5_0, m0_0 =>
    cond (decide (x5_0 < ((m0_0.length : Nat) : Int)))
      (cond (decide (0 ≤ x5_0))
        (cond (decide (x5_0 < ((m0_0.length : Nat) : Int)))
          (cond (decide (0 ≤ x5_0))
            (cond (decide (x5_0 < (((m0_0.set x5_0.toNat (x1_0, ((atI m0_0 x5_0).2))).length : Nat) : Int)))
              (cond (decide (0 ≤ x5_0))
                (cond (decide (x5_0 < ((((m0_0.set x5_0.toNat (x1_0, ((atI m0_0 x5_0).2))).set x5_0.toNat ((atI (m0_0.set x5_0.toNat (x1_0, ((atI m0_0 x5_0).2))) x5_0).1, IntKind.i64.wrap (x1_0 + 1), ((atI (m0_0.set x5_0.toNat (x1_0, ((atI m0_0 x5_0).2))) x5_0).2).2)).length : Nat) : Int)))
                  (F31_l0 k a0 a1 n (IntKind.i64.wrap ((IntKind.i64.wrap ((IntKind.i64.wrap (x1_0 + 1)) + 1)) + 1)) (IntKind.i64.wrap (x5_0 + 1)) (((m0_0.set x5_0.toNat (x1_0, ((atI m0_0 x5_0).2))).set x5_0.toNat ((atI (m0_0.set x5_0.toNat (x1_0, ((atI m0_0 x5_0).2))) x5_0).1, IntKind.i64.wrap (x1_0 + 1), ((atI (m0_0.set x5_0.toNat (x1_0, ((atI m0_0 x5_0).2))) x5_0).2).2)).set x5_0.toNat ((atI ((m0_0.set x5_0.toNat (x1_0, ((atI m0_0 x5_0).2))).set x5_0.toNat ((atI (m0_0.set x5_0.toNat (x1_0, ((atI m0_0 x5_0).2))) x5_0).1, IntKind.i64.wrap (x1_0 + 1), ((atI (m0_0.set x5_0.toNat (x1_0, ((atI m0_0 x5_0).2))) x5_0).2).2)) x5_0).1, ((atI ((m0_0.set x5_0.toNat (x1_0, ((atI m0_0 x5_0).2))).set x5_0.toNat ((atI (m0_0.set x5_0.toNat (x1_0, ((atI m0_0 x5_0).2))) x5_0).1, IntKind.i64.wrap (x1_0 + 1), ((atI (m0_0.set x5_0.toNat (x1_0, ((atI m0_0 x5_0).2))) x5_0).2).2)) x5_0).2).1, IntKind.i64.wrap ((IntKind.i64.wrap (x1_0 + 1)) + 1))))
                  (none))
                (none))
              (none))
            (none))
          (none))
        (none))
      (some (x1_0, m0_0))
theorem F31_l0_rd {β : Type} (k n : Nat) (a0 : List (den pace)) (a1 : Int) (x1_0 : Int) (x5_0 : Int) (m0_0 : List (den pace)) (K : A × List (List Leaf) → Option β) :
    loopG (F31_E k) Try.f31 [1, 0, 1, 0] 0 (kontAt (F31_E k) [1, 0, 1, 0] (bodyOf Try.f31) 0 (endC (F31_E k) Try.f31 [.one (.b (.s .own pace a0)), .one (.l (.v (.int .i64 a1)))] K)) (n + 1) (F31_s0 a0 a1 x1_0 x5_0 m0_0) =
    cond (decide (x5_0 < ((m0_0.length : Nat) : Int)))
      (cond (decide (0 ≤ x5_0))
        (cond (decide (x5_0 < ((m0_0.length : Nat) : Int)))
          (cond (decide (0 ≤ x5_0))
            (cond (decide (x5_0 < (((m0_0.set x5_0.toNat (x1_0, ((atI m0_0 x5_0).2))).length : Nat) : Int)))
              (cond (decide (0 ≤ x5_0))
                (cond (decide (x5_0 < ((((m0_0.set x5_0.toNat (x1_0, ((atI m0_0 x5_0).2))).set x5_0.toNat ((atI (m0_0.set x5_0.toNat (x1_0, ((atI m0_0 x5_0).2))) x5_0).1, IntKind.i64.wrap (x1_0 + 1), ((atI (m0_0.set x5_0.toNat (x1_0, ((atI m0_0 x5_0).2))) x5_0).2).2)).length : Nat) : Int)))
                  (loopG (F31_E k) Try.f31 [1, 0, 1, 0] 0 (kontAt (F31_E k) [1, 0, 1, 0] (bodyOf Try.f31) 0 (endC (F31_E k) Try.f31 [.one (.b (.s .own pace a0)), .one (.l (.v (.int .i64 a1)))] K)) n (F31_s0 a0 a1 (IntKind.i64.wrap ((IntKind.i64.wrap ((IntKind.i64.wrap (x1_0 + 1)) + 1)) + 1)) (IntKind.i64.wrap (x5_0 + 1)) (((m0_0.set x5_0.toNat (x1_0, ((atI m0_0 x5_0).2))).set x5_0.toNat ((atI (m0_0.set x5_0.toNat (x1_0, ((atI m0_0 x5_0).2))) x5_0).1, IntKind.i64.wrap (x1_0 + 1), ((atI (m0_0.set x5_0.toNat (x1_0, ((atI m0_0 x5_0).2))) x5_0).2).2)).set x5_0.toNat ((atI ((m0_0.set x5_0.toNat (x1_0, ((atI m0_0 x5_0).2))).set x5_0.toNat ((atI (m0_0.set x5_0.toNat (x1_0, ((atI m0_0 x5_0).2))) x5_0).1, IntKind.i64.wrap (x1_0 + 1), ((atI (m0_0.set x5_0.toNat (x1_0, ((atI m0_0 x5_0).2))) x5_0).2).2)) x5_0).1, ((atI ((m0_0.set x5_0.toNat (x1_0, ((atI m0_0 x5_0).2))).set x5_0.toNat ((atI (m0_0.set x5_0.toNat (x1_0, ((atI m0_0 x5_0).2))) x5_0).1, IntKind.i64.wrap (x1_0 + 1), ((atI (m0_0.set x5_0.toNat (x1_0, ((atI m0_0 x5_0).2))) x5_0).2).2)) x5_0).2).1, IntKind.i64.wrap ((IntKind.i64.wrap (x1_0 + 1)) + 1)))))
                  (none))
                (none))
              (none))
            (none))
          (none))
        (none))
      (K (.one (.v (.int .i64 x1_0)), [[.s .own pace m0_0]])) := by kernel_rfl
theorem F31_l0_lp {β : Type} (k : Nat) (a0 : List (den pace)) (a1 : Int) (K : A × List (List Leaf) → Option β) (n : Nat) : ∀ (x1_0 : Int) (x5_0 : Int) (m0_0 : List (den pace)), loopG (F31_E k) Try.f31 [1, 0, 1, 0] 0 (kontAt (F31_E k) [1, 0, 1, 0] (bodyOf Try.f31) 0 (endC (F31_E k) Try.f31 [.one (.b (.s .own pace a0)), .one (.l (.v (.int .i64 a1)))] K)) n (F31_s0 a0 a1 x1_0 x5_0 m0_0) =
    (F31_l0 k a0 a1 n x1_0 x5_0 m0_0).bind fun r => K (.one (.v (.int .i64 r.1)), [[.s .own pace r.2]]) := by
  induction n with
  | zero => intros; rfl
  | succ n ih =>
    intros
    rw [F31_l0_rd, F31_l0]
    simp only [bind_cond, Option.bind_assoc, Option.bind_some, Option.bind_none, Option.bind_fun_some, ih]
def F31 (k : Nat) (a0 : List (den pace)) (a1 : Int) : Option (Int × List (den pace)) :=
  F31_l0 k a0 a1 k a1 0 a0
theorem F31_st {β : Type} (k : Nat) (a0 : List (den pace)) (a1 : Int) (K : A × List (List Leaf) → Option β) : evalF (F31_E k) Try.f31 [.one (.b (.s .own pace a0)), .one (.l (.v (.int .i64 a1)))] K =
    loopG (F31_E k) Try.f31 [1, 0, 1, 0] 0 (kontAt (F31_E k) [1, 0, 1, 0] (bodyOf Try.f31) 0 (endC (F31_E k) Try.f31 [.one (.b (.s .own pace a0)), .one (.l (.v (.int .i64 a1)))] K)) k (F31_s0 a0 a1 a1 0 a0) := by kernel_rfl
theorem F31_ev {β : Type} (k : Nat) (a0 : List (den pace)) (a1 : Int) (K : A × List (List Leaf) → Option β) : evalF (F31_E k) Try.f31 [.one (.b (.s .own pace a0)), .one (.l (.v (.int .i64 a1)))] K = (F31 k a0 a1).bind fun r => K (.one (.v (.int .i64 r.1)), [[.s .own pace r.2]]) := by
  rw [F31_st, F31]
  simp only [bind_cond, Option.bind_assoc, Option.bind_some, Option.bind_none, Option.bind_fun_some, F31_l0_lp]
theorem F31_con (k : Nat) (a0 : List (den pace)) (a1 : Int) : Contract Try.prog 31 [.one (.b (.s .own pace a0)), .one (.l (.v (.int .i64 a1)))] ⟨F31 k a0 a1, fun r => (.one (.v (.int .i64 r.1)), [[.s .own pace r.2]])⟩ :=
  con_of (envOk .none _ _ _ _) mixed Try.func31 rfl rfl (F31_ev k a0 a1 some)
/-! 32: loop.example/netstack/laws.heldPaceS -/
def F32_h : Nat → Hint
  | 0 => ⟨[(0, .plain), (1, .plain), (5, .plain)], []⟩
  | _ => ⟨[], []⟩
abbrev F32_E (k : Nat) : Env := env noTab F32_h .own [] k
def F32_s0 (a0 : List (den pace)) (a1 : Int) (x1_0 : Int) (x5_0 : Int) : St := ⟨[.one (.s .ro pace a0), .one (.v (.int .i64 x1_0)), .one .d, .one .d, .one .d, .one (.v (.int .i64 x5_0)), .one .d, .one .d, .one .d, .one .d, .one .d, .one .d, .one .d, .one .d, .one .d, .one .d, .one .d, .one .d, .one .d, .one .d, .one .d, .one .d, .one .d, .one .d, .one .d, .one .d, .one .d, .one .d, .one .d, .one .d, .one .d, .one .d, .one .d, .one .d, .one .d, .one .d, .one .d, .one .d, .one .d, .one .d], []⟩
def F32_l0 (k : Nat) (a0 : List (den pace)) (a1 : Int) : Nat → Int → Int → Option (Int)
  | 0, _, _ => none
  | n + 1, x1_0, x5_0 =>
    cond (decide (x5_0 < ((a0.length : Nat) : Int)))
      (cond (decide (0 ≤ x5_0))
        (cond (decide (x5_0 < ((a0.length : Nat) : Int)))
          (cond ((((atI a0 x5_0).1) != x1_0))
            (some (-1))
            (cond (decide (0 ≤ x5_0))
              (cond (decide (x5_0 < ((a0.length : Nat) : Int)))
                (cond (((((atI a0 x5_0).2).1) != (IntKind.i64.wrap (x1_0 + 1))))
                  (some (-1))
                  (cond (decide (0 ≤ x5_0))
                    (cond (decide (x5_0 < ((a0.length : Nat) : Int)))
                      (cond (((((atI a0 x5_0).2).2) != (IntKind.i64.wrap ((IntKind.i64.wrap (x1_0 + 1)) + 1))))
                        (some (-1))
                        (F32_l0 k a0 a1 n (IntKind.i64.wrap ((IntKind.i64.wrap ((IntKind.i64.wrap (x1_0 + 1)) + 1)) + 1)) (IntKind.i64.wrap (x5_0 + 1))))
                      (none))
                    (none)))
                (none))
              (none)))
          (none))
        (none))
      (some x1_0)
theorem F32_l0_rd {β : Type} (k n : Nat) (a0 : List (den pace)) (a1 : Int) (x1_0 : Int) (x5_0 : Int) (K : A × List (List Leaf) → Option β) :
    loopG (F32_E k) Try.f32 [1, 0, 1, 0] 0 (kontAt (F32_E k) [1, 0, 1, 0] (bodyOf Try.f32) 0 (endC (F32_E k) Try.f32 [.one (.l (.s .ro pace a0)), .one (.l (.v (.int .i64 a1)))] K)) (n + 1) (F32_s0 a0 a1 x1_0 x5_0) =
    cond (decide (x5_0 < ((a0.length : Nat) : Int)))
      (cond (decide (0 ≤ x5_0))
        (cond (decide (x5_0 < ((a0.length : Nat) : Int)))
          (cond ((((atI a0 x5_0).1) != x1_0))
            (K (.one (.v (.int .i64 (-1))), []))
            (cond (decide (0 ≤ x5_0))
              (cond (decide (x5_0 < ((a0.length : Nat) : Int)))
                (cond (((((atI a0 x5_0).2).1) != (IntKind.i64.wrap (x1_0 + 1))))
                  (K (.one (.v (.int .i64 (-1))), []))
                  (cond (decide (0 ≤ x5_0))
                    (cond (decide (x5_0 < ((a0.length : Nat) : Int)))
                      (cond (((((atI a0 x5_0).2).2) != (IntKind.i64.wrap ((IntKind.i64.wrap (x1_0 + 1)) + 1))))
                        (K (.one (.v (.int .i64 (-1))), []))
                        (loopG (F32_E k) Try.f32 [1, 0, 1, 0] 0 (kontAt (F32_E k) [1, 0, 1, 0] (bodyOf Try.f32) 0 (endC (F32_E k) Try.f32 [.one (.l (.s .ro pace a0)), .one (.l (.v (.int .i64 a1)))] K)) n (F32_s0 a0 a1 (IntKind.i64.wrap ((IntKind.i64.wrap ((IntKind.i64.wrap (x1_0 + 1)) + 1)) + 1)) (IntKind.i64.wrap (x5_0 + 1)))))
                      (none))
                    (none)))
                (none))
              (none)))
          (none))
        (none))
      (K (.one (.v (.int .i64 x1_0)), [])) := by kernel_rfl
theorem F32_l0_lp {β : Type} (k : Nat) (a0 : List (den pace)) (a1 : Int) (K : A × List (List Leaf) → Option β) (n : Nat) : ∀ (x1_0 : Int) (x5_0 : Int), loopG (F32_E k) Try.f32 [1, 0, 1, 0] 0 (kontAt (F32_E k) [1, 0, 1, 0] (bodyOf Try.f32) 0 (endC (F32_E k) Try.f32 [.one (.l (.s .ro pace a0)), .one (.l (.v (.int .i64 a1)))] K)) n (F32_s0 a0 a1 x1_0 x5_0) =
    (F32_l0 k a0 a1 n x1_0 x5_0).bind fun r => K (.one (.v (.int .i64 r)), []) := by
  induction n with
  | zero => intros; rfl
  | succ n ih =>
    intros
    rw [F32_l0_rd, F32_l0]
    simp only [bind_cond, Option.bind_assoc, Option.bind_some, Option.bind_none, Option.bind_fun_some, ih]
def F32 (k : Nat) (a0 : List (den pace)) (a1 : Int) : Option (Int) :=
  F32_l0 k a0 a1 k a1 0
theorem F32_st {β : Type} (k : Nat) (a0 : List (den pace)) (a1 : Int) (K : A × List (List Leaf) → Option β) : evalF (F32_E k) Try.f32 [.one (.l (.s .ro pace a0)), .one (.l (.v (.int .i64 a1)))] K =
    loopG (F32_E k) Try.f32 [1, 0, 1, 0] 0 (kontAt (F32_E k) [1, 0, 1, 0] (bodyOf Try.f32) 0 (endC (F32_E k) Try.f32 [.one (.l (.s .ro pace a0)), .one (.l (.v (.int .i64 a1)))] K)) k (F32_s0 a0 a1 a1 0) := by kernel_rfl
theorem F32_ev {β : Type} (k : Nat) (a0 : List (den pace)) (a1 : Int) (K : A × List (List Leaf) → Option β) : evalF (F32_E k) Try.f32 [.one (.l (.s .ro pace a0)), .one (.l (.v (.int .i64 a1)))] K = (F32 k a0 a1).bind fun r => K (.one (.v (.int .i64 r)), []) := by
  rw [F32_st, F32]
  simp only [bind_cond, Option.bind_assoc, Option.bind_some, Option.bind_none, Option.bind_fun_some, F32_l0_lp]
theorem F32_con (k : Nat) (a0 : List (den pace)) (a1 : Int) : Contract Try.prog 32 [.one (.l (.s .ro pace a0)), .one (.l (.v (.int .i64 a1)))] ⟨F32 k a0 a1, fun r => (.one (.v (.int .i64 r)), [])⟩ :=
  con_of (envOk .none _ _ _ _) mixed Try.func32 rfl rfl (F32_ev k a0 a1 some)
/-! 10: loop.example/netstack/laws.FnExactSharedStep -/
def F10_t (k : Nat) : Tab
  | 15, [.one (.l (.s .ro (.pair (.int .i64) (.pair (.int .i64) (.int .i64))) a0)), .one (.l (.v (.int .i64 a1)))] => some ⟨F15 k a0 a1, fun r => (.one (.v (.int .i64 r)), [])⟩
  | 17, [.one (.l (.s .ro (.pair (.int .i64) (.pair (.int .i64) (.int .i64))) a0))] => some ⟨F17 k a0, fun r => (.one (.s .own pace r), [])⟩
  | 30, [.one (.l (.s .ro (.pair (.int .i64) (.pair (.int .i64) (.int .i64))) a0)), .one (.l (.v (.int .i64 a1)))] => some ⟨F30 k a0 a1, fun r => (.tup [(false, [.s .own pace r.1]), (false, [.v (.bool r.2)])], [])⟩
  | 29, [.one (.l (.s .ro (.pair (.int .i64) (.pair (.int .i64) (.int .i64))) a0)), .one (.l (.v (.int .i64 a1)))] => some ⟨F29 k a0 a1, fun r => (.tup [(false, [.s .own pace r.1]), (false, [.v (.bool r.2)])], [])⟩
  | 19, [.one (.l (.s .ro (.pair (.int .i64) (.pair (.int .i64) (.int .i64))) a0)), .one (.l (.s .ro (.pair (.int .i64) (.pair (.int .i64) (.int .i64))) a1))] => some ⟨F19 k a0 a1, fun r => (.one (.v (.bool r)), [])⟩
  | 31, [.one (.b (.s .own (.pair (.int .i64) (.pair (.int .i64) (.int .i64))) a0)), .one (.l (.v (.int .i64 a1)))] => some ⟨F31 k a0 a1, fun r => (.one (.v (.int .i64 r.1)), [[.s .own pace r.2]])⟩
  | 32, [.one (.l (.s .ro (.pair (.int .i64) (.pair (.int .i64) (.int .i64))) a0)), .one (.l (.v (.int .i64 a1)))] => some ⟨F32 k a0 a1, fun r => (.one (.v (.int .i64 r)), [])⟩
  | _, _ => none
abbrev F10_E (k : Nat) : Env := env (F10_t k) noHint .own [] k
def F10 (k : Nat) (a0 : List (den pace)) (a1 : Int) : Option (Bool) :=
  (F15 k a0 1048576).bind fun b1 =>
    cond (decide (b1 < 0))
      (some true)
      ((F17 k a0).bind fun b2 =>
        (F30 k b2 a1).bind fun b3 =>
          (F17 k a0).bind fun b4 =>
            (F29 k b4 a1).bind fun b5 =>
              (F19 k b5.1 b3.1).bind fun b6 =>
                cond ((!b6))
                  (some false)
                  (cond ((!(b5.2 == b3.2)))
                    (some false)
                    ((F17 k a0).bind fun b7 =>
                      (F19 k b4 b7).bind fun b8 =>
                        cond ((!b8))
                          (some false)
                          ((F31 k b4 1).bind fun b9 =>
                            cond (decide (b9.1 < 0))
                              (some false)
                              ((F19 k b5.1 b3.1).bind fun b10 =>
                                cond ((!b10))
                                  (some false)
                                  (cond ((!(b5.2 == b3.2)))
                                    (some false)
                                    ((F31 k b5.1 1).bind fun b11 =>
                                      (F32 k b11.2 1).bind fun b12 =>
                                        cond (decide (b12 < 0))
                                          (some false)
                                          (cond ((b12 != b11.1))
                                            (some false)
                                            ((F17 k a0).bind fun b13 =>
                                              (F29 k b13 a1).bind fun b14 =>
                                                (F19 k b14.1 b3.1).bind fun b15 =>
                                                  cond ((!b15))
                                                    (some false)
                                                    (cond ((!(b14.2 == b3.2)))
                                                      (some false)
                                                      ((F32 k b11.2 1).bind fun b16 =>
                                                        cond (decide (b16 < 0))
                                                          (some false)
                                                          (cond ((b16 != b11.1))
                                                            (some false)
                                                            (some true)))))))))))))
theorem F10_st {β : Type} (k : Nat) (a0 : List (den pace)) (a1 : Int) (K : A × List (List Leaf) → Option β) : evalF (F10_E k) Try.f10 [.one (.l (.s .ro pace a0)), .one (.l (.v (.int .i64 a1)))] K =
    (F15 k a0 1048576).bind fun b1 =>
      cond (decide (b1 < 0))
        (K (.one (.v (.bool true)), []))
        ((F17 k a0).bind fun b2 =>
          (F30 k b2 a1).bind fun b3 =>
            (F17 k a0).bind fun b4 =>
              (F29 k b4 a1).bind fun b5 =>
                (F19 k b5.1 b3.1).bind fun b6 =>
                  cond ((!b6))
                    (K (.one (.v (.bool false)), []))
                    (cond ((!(b5.2 == b3.2)))
                      (K (.one (.v (.bool false)), []))
                      ((F17 k a0).bind fun b7 =>
                        (F19 k b4 b7).bind fun b8 =>
                          cond ((!b8))
                            (K (.one (.v (.bool false)), []))
                            ((F31 k b4 1).bind fun b9 =>
                              cond (decide (b9.1 < 0))
                                (K (.one (.v (.bool false)), []))
                                ((F19 k b5.1 b3.1).bind fun b10 =>
                                  cond ((!b10))
                                    (K (.one (.v (.bool false)), []))
                                    (cond ((!(b5.2 == b3.2)))
                                      (K (.one (.v (.bool false)), []))
                                      ((F31 k b5.1 1).bind fun b11 =>
                                        (F32 k b11.2 1).bind fun b12 =>
                                          cond (decide (b12 < 0))
                                            (K (.one (.v (.bool false)), []))
                                            (cond ((b12 != b11.1))
                                              (K (.one (.v (.bool false)), []))
                                              ((F17 k a0).bind fun b13 =>
                                                (F29 k b13 a1).bind fun b14 =>
                                                  (F19 k b14.1 b3.1).bind fun b15 =>
                                                    cond ((!b15))
                                                      (K (.one (.v (.bool false)), []))
                                                      (cond ((!(b14.2 == b3.2)))
                                                        (K (.one (.v (.bool false)), []))
                                                        ((F32 k b11.2 1).bind fun b16 =>
                                                          cond (decide (b16 < 0))
                                                            (K (.one (.v (.bool false)), []))
                                                            (cond ((b16 != b11.1))
                                                              (K (.one (.v (.bool false)), []))
                                                              (K (.one (.v (.bool true)), [])))))))))))))) := by kernel_rfl
theorem F10_ev {β : Type} (k : Nat) (a0 : List (den pace)) (a1 : Int) (K : A × List (List Leaf) → Option β) : evalF (F10_E k) Try.f10 [.one (.l (.s .ro pace a0)), .one (.l (.v (.int .i64 a1)))] K = (F10 k a0 a1).bind fun r => K (.one (.v (.bool r)), []) := by
  rw [F10_st, F10]
  simp only [bind_cond, Option.bind_assoc, Option.bind_some, Option.bind_none, Option.bind_fun_some]
theorem F10_tOk (k : Nat) : TabFn Try.prog (F10_t k) := by
  constructor <;> intro f xs cr h <;> unfold F10_t at h <;> split at h <;> first | (simp only [Option.some.injEq] at h; subst h) | (simp at h; done)
  · exact F15_con _ _ _
  · exact F17_con _ _
  · exact F30_con _ _ _
  · exact F29_con _ _ _
  · exact F19_con _ _ _
  · exact F31_con _ _ _
  · exact F32_con _ _ _
  · exact .of (by kernel_rfl)
  · exact .of (by kernel_rfl)
  · exact .of (by kernel_rfl)
  · exact .of (by kernel_rfl)
  · exact .of (by kernel_rfl)
  · exact .of (by kernel_rfl)
  · exact .of (by kernel_rfl)
theorem F10_con (k : Nat) (a0 : List (den pace)) (a1 : Int) : Contract Try.prog 10 [.one (.l (.s .ro pace a0)), .one (.l (.v (.int .i64 a1)))] ⟨F10 k a0 a1, fun r => (.one (.v (.bool r)), [])⟩ :=
  con_of (envOk (F10_tOk k) _ _ _ _) mixed Try.func10 rfl rfl (F10_ev k a0 a1 some)
/-! 35: loop.example/netstack/spec.SharedRun -/
def F35_h : Nat → Hint
  | 0 => ⟨[(1, .plain), (2, .plain), (8, .own .own pace []), (9, .plain), (10, .plain)], []⟩
  | _ => ⟨[], []⟩
def F35_t (k : Nat) : Tab
  | 16, [.one (.l (.s .ro (.pair (.int .i64) (.pair (.int .i64) (.int .i64))) a0))] => some ⟨F16 k a0, fun r => (.one (.v (.bool r)), [])⟩
  | 47, [.one (.l (.v (.int .i64 a0))), .one (.l (.v (.int .i64 a1))), .one (.l (.v (.int .i64 a2)))] => some ⟨F47 k a0 a1 a2, fun r => (.one (.v (.bool r)), [])⟩
  | 30, [.one (.l (.s .ro (.pair (.int .i64) (.pair (.int .i64) (.int .i64))) a0)), .one (.l (.v (.int .i64 a1)))] => some ⟨F30 k a0 a1, fun r => (.tup [(false, [.s .own pace r.1]), (false, [.v (.bool r.2)])], [])⟩
  | 22, [.one (.l (.s .ro (.pair (.int .i64) (.pair (.int .i64) (.int .i64))) a0))] => some ⟨F22 k a0, fun r => (.one (.v (.int .i64 r)), [])⟩
  | _, _ => none
abbrev F35_E (k : Nat) : Env := env (F35_t k) F35_h .own [] k
def F35_s0 (a0 : List (den pace)) (a1 : Int) (a2 : Int) (x9_0 : Int) (x10_0 : Int) (m8900_0 : List (den pace)) : St := ⟨[.one .d, .one (.v (.int .i64 a1)), .one (.v (.int .i64 a2)), .one .d, .one .d, .one .d, .one .d, .one .d, .one (.a (.cell 8900) 0 0 none), .one (.v (.int .i64 x9_0)), .one (.v (.int .i64 x10_0)), .one .d, .one .d, .one .d, .one .d, .one .d, .one .d, .one .d, .one .d, .one .d, .one .d, .one .d, .one .d, .one .d, .one .d, .one .d, .one .d, .one .d, .one .d, .one .d, .one .d, .one .d, .one .d, .one .d, .one .d, .one .d, .one .d, .one .d, .one .d, .one .d, .one .d, .one .d, .one .d, .one .d, .one .d, .one .d, .one .d, .one .d, .one .d], [(8900, ⟨.s .own pace m8900_0, 0, 0⟩)]⟩
def F35_l0 (k : Nat) (a0 : List (den pace)) (a1 : Int) (a2 : Int) : Nat → Int → Int → List (den pace) → Option (List (den pace) × Int)
  | 0, _, _, _ => none
  | n + 1, x9_0, x10_0, m8900_0 =>
    cond (decide (x10_0 < a2))
      ((F30 k m8900_0 a1).bind fun b4 =>
        cond (b4.2)
          ((F22 k m8900_0).bind fun b5 =>
            F35_l0 k a0 a1 a2 n (IntKind.i64.wrap (x9_0 + b5)) (IntKind.i64.wrap (x10_0 + 1)) b4.1)
          (F35_l0 k a0 a1 a2 n x9_0 (IntKind.i64.wrap (x10_0 + 1)) b4.1))
      (some (m8900_0, x9_0))
theorem F35_l0_rd {β : Type} (k n : Nat) (a0 : List (den pace)) (a1 : Int) (a2 : Int) (x9_0 : Int) (x10_0 : Int) (m8900_0 : List (den pace)) (K : A × List (List Leaf) → Option β) :
    loopG (F35_E k) Try.f35 [1, 1, 1, 1, 0, 1, 0] 0 (kontAt (F35_E k) [1, 1, 1, 1, 0, 1, 0] (bodyOf Try.f35) 0 (endC (F35_E k) Try.f35 [.one (.l (.s .ro pace a0)), .one (.l (.v (.int .i64 a1))), .one (.l (.v (.int .i64 a2)))] K)) (n + 1) (F35_s0 a0 a1 a2 x9_0 x10_0 m8900_0) =
    cond (decide (x10_0 < a2))
      ((F30 k m8900_0 a1).bind fun b4 =>
        cond (b4.2)
          ((F22 k m8900_0).bind fun b5 =>
            loopG (F35_E k) Try.f35 [1, 1, 1, 1, 0, 1, 0] 0 (kontAt (F35_E k) [1, 1, 1, 1, 0, 1, 0] (bodyOf Try.f35) 0 (endC (F35_E k) Try.f35 [.one (.l (.s .ro pace a0)), .one (.l (.v (.int .i64 a1))), .one (.l (.v (.int .i64 a2)))] K)) n (F35_s0 a0 a1 a2 (IntKind.i64.wrap (x9_0 + b5)) (IntKind.i64.wrap (x10_0 + 1)) b4.1))
          (loopG (F35_E k) Try.f35 [1, 1, 1, 1, 0, 1, 0] 0 (kontAt (F35_E k) [1, 1, 1, 1, 0, 1, 0] (bodyOf Try.f35) 0 (endC (F35_E k) Try.f35 [.one (.l (.s .ro pace a0)), .one (.l (.v (.int .i64 a1))), .one (.l (.v (.int .i64 a2)))] K)) n (F35_s0 a0 a1 a2 x9_0 (IntKind.i64.wrap (x10_0 + 1)) b4.1)))
      (K (.tup [(false, [.s .own pace m8900_0]), (false, [.v (.int .i64 x9_0)])], [])) := by kernel_rfl
theorem F35_l0_lp {β : Type} (k : Nat) (a0 : List (den pace)) (a1 : Int) (a2 : Int) (K : A × List (List Leaf) → Option β) (n : Nat) : ∀ (x9_0 : Int) (x10_0 : Int) (m8900_0 : List (den pace)), loopG (F35_E k) Try.f35 [1, 1, 1, 1, 0, 1, 0] 0 (kontAt (F35_E k) [1, 1, 1, 1, 0, 1, 0] (bodyOf Try.f35) 0 (endC (F35_E k) Try.f35 [.one (.l (.s .ro pace a0)), .one (.l (.v (.int .i64 a1))), .one (.l (.v (.int .i64 a2)))] K)) n (F35_s0 a0 a1 a2 x9_0 x10_0 m8900_0) =
    (F35_l0 k a0 a1 a2 n x9_0 x10_0 m8900_0).bind fun r => K (.tup [(false, [.s .own pace r.1]), (false, [.v (.int .i64 r.2)])], []) := by
  induction n with
  | zero => intros; rfl
  | succ n ih =>
    intros
    rw [F35_l0_rd, F35_l0]
    simp only [bind_cond, Option.bind_assoc, Option.bind_some, Option.bind_none, Option.bind_fun_some, ih]
def F35 (k : Nat) (a0 : List (den pace)) (a1 : Int) (a2 : Int) : Option (List (den pace) × Int) :=
  (F16 k a0).bind fun b1 =>
    cond ((!b1))
      (some ([], 0))
      ((F47 k a1 1 1000).bind fun b2 =>
        cond ((!b2))
          (some ([], 0))
          ((F47 k a2 0 200).bind fun b3 =>
            cond ((!b3))
              (some ([], 0))
              (cond (decide ((([] : List (den pace)).length + a0.length) * 24 ≤ 140737488355328))
                (F35_l0 k a0 a1 a2 k 0 0 ([] ++ a0))
                (none))))
theorem F35_st {β : Type} (k : Nat) (a0 : List (den pace)) (a1 : Int) (a2 : Int) (K : A × List (List Leaf) → Option β) : evalF (F35_E k) Try.f35 [.one (.l (.s .ro pace a0)), .one (.l (.v (.int .i64 a1))), .one (.l (.v (.int .i64 a2)))] K =
    (F16 k a0).bind fun b1 =>
      cond ((!b1))
        (K (.tup [(false, [.s .own pace []]), (false, [.v (.int .i64 0)])], []))
        ((F47 k a1 1 1000).bind fun b2 =>
          cond ((!b2))
            (K (.tup [(false, [.s .own pace []]), (false, [.v (.int .i64 0)])], []))
            ((F47 k a2 0 200).bind fun b3 =>
              cond ((!b3))
                (K (.tup [(false, [.s .own pace []]), (false, [.v (.int .i64 0)])], []))
                (cond (decide ((([] : List (den pace)).length + a0.length) * 24 ≤ 140737488355328))
                  (loopG (F35_E k) Try.f35 [1, 1, 1, 1, 0, 1, 0] 0 (kontAt (F35_E k) [1, 1, 1, 1, 0, 1, 0] (bodyOf Try.f35) 0 (endC (F35_E k) Try.f35 [.one (.l (.s .ro pace a0)), .one (.l (.v (.int .i64 a1))), .one (.l (.v (.int .i64 a2)))] K)) k (F35_s0 a0 a1 a2 0 0 ([] ++ a0)))
                  (none)))) := by kernel_rfl
theorem F35_ev {β : Type} (k : Nat) (a0 : List (den pace)) (a1 : Int) (a2 : Int) (K : A × List (List Leaf) → Option β) : evalF (F35_E k) Try.f35 [.one (.l (.s .ro pace a0)), .one (.l (.v (.int .i64 a1))), .one (.l (.v (.int .i64 a2)))] K = (F35 k a0 a1 a2).bind fun r => K (.tup [(false, [.s .own pace r.1]), (false, [.v (.int .i64 r.2)])], []) := by
  rw [F35_st, F35]
  simp only [bind_cond, Option.bind_assoc, Option.bind_some, Option.bind_none, Option.bind_fun_some, F35_l0_lp]
theorem F35_tOk (k : Nat) : TabFn Try.prog (F35_t k) := by
  constructor <;> intro f xs cr h <;> unfold F35_t at h <;> split at h <;> first | (simp only [Option.some.injEq] at h; subst h) | (simp at h; done)
  · exact F16_con _ _
  · exact F47_con _ _ _ _
  · exact F30_con _ _ _
  · exact F22_con _ _
  · exact .of (by kernel_rfl)
  · exact .of (by kernel_rfl)
  · exact .of (by kernel_rfl)
  · exact .of (by kernel_rfl)
theorem F35_con (k : Nat) (a0 : List (den pace)) (a1 : Int) (a2 : Int) : Contract Try.prog 35 [.one (.l (.s .ro pace a0)), .one (.l (.v (.int .i64 a1))), .one (.l (.v (.int .i64 a2)))] ⟨F35 k a0 a1 a2, fun r => (.tup [(false, [.s .own pace r.1]), (false, [.v (.int .i64 r.2)])], [])⟩ :=
  con_of (envOk (F35_tOk k) _ _ _ _) mixed Try.func35 rfl rfl (F35_ev k a0 a1 a2 some)
/-! 36: loop.example/netstack/impl.SharedRun -/
def F36_h : Nat → Hint
  | 0 => ⟨[(1, .plain), (8, .own .own pace []), (9, .plain), (28, .plain), (29, .plain)], []⟩
  | _ => ⟨[], []⟩
def F36_t (k : Nat) : Tab
  | 18, [.one (.l (.s .ro (.pair (.int .i64) (.pair (.int .i64) (.int .i64))) a0))] => some ⟨F18 k a0, fun r => (.one (.v (.bool r)), [])⟩
  | 49, [.one (.l (.v (.int .i64 a0))), .one (.l (.v (.int .i64 a1))), .one (.l (.v (.int .i64 a2)))] => some ⟨F49 k a0 a1 a2, fun r => (.one (.v (.bool r)), [])⟩
  | 62, [.one (.l (.s .ro (.pair (.int .i64) (.pair (.int .i64) (.int .i64))) a0))] => some ⟨F62 k a0, fun r => (.one (.s .own pace r), [])⟩
  | 54, [.one (.l (.s .ro (.pair (.int .i64) (.pair (.int .i64) (.int .i64))) a0))] => some ⟨F54 k a0, fun r => (.one (.v (.int .i64 r)), [])⟩
  | 59, [.one (.l (.s .ro (.pair (.int .i64) (.pair (.int .i64) (.int .i64))) a0)), .one (.l (.v (.int .i64 a1)))] => some ⟨F59 k a0 a1, fun r => (.tup [(false, [.s .own pace r.1]), (false, [.v (.bool r.2)])], [])⟩
  | _, _ => none
abbrev F36_E (k : Nat) : Env := env (F36_t k) F36_h .own [] k
def F36_s0 (a0 : List (den pace)) (a1 : Int) (a2 : Int) (x9_0 : Int) (x29_0 : Int) (m8900_0 : List (den pace)) : St := ⟨[.one .d, .one (.v (.int .i64 a1)), .one .d, .one .d, .one .d, .one .d, .one .d, .one .d, .one (.a (.cell 8900) 0 0 none), .one (.v (.int .i64 x9_0)), .one .d, .one .d, .one .d, .one .d, .one .d, .one .d, .one .d, .one .d, .one .d, .one .d, .one .d, .one .d, .one .d, .one .d, .one .d, .one .d, .one .d, .one .d, .one (.v (.int .i64 a2)), .one (.v (.int .i64 x29_0)), .one .d, .one .d, .one .d, .one .d, .one .d, .one .d, .one .d, .one .d, .one .d, .one .d, .one .d, .one .d, .one .d, .one .d, .one .d, .one .d, .one .d], [(8900, ⟨.s .own pace m8900_0, 0, 0⟩)]⟩
def F36_l0 (k : Nat) (a0 : List (den pace)) (a1 : Int) (a2 : Int) : Nat → Int → Int → List (den pace) → Option (List (den pace) × Int)
  | 0, _, _, _ => none
  | n + 1, x9_0, x29_0, m8900_0 =>
    cond (decide (x29_0 < a2))
      ((F54 k m8900_0).bind fun b5 =>
        (F59 k m8900_0 a1).bind fun b6 =>
          cond (b6.2)
            (F36_l0 k a0 a1 a2 n (IntKind.i64.wrap (x9_0 + b5)) (IntKind.i64.wrap (x29_0 + 1)) b6.1)
            (F36_l0 k a0 a1 a2 n x9_0 (IntKind.i64.wrap (x29_0 + 1)) b6.1))
      (some (m8900_0, x9_0))
theorem F36_l0_rd {β : Type} (k n : Nat) (a0 : List (den pace)) (a1 : Int) (a2 : Int) (x9_0 : Int) (x29_0 : Int) (m8900_0 : List (den pace)) (K : A × List (List Leaf) → Option β) :
    loopG (F36_E k) Try.f36 [1, 1, 1, 0, 1, 0] 0 (kontAt (F36_E k) [1, 1, 1, 0, 1, 0] (bodyOf Try.f36) 0 (endC (F36_E k) Try.f36 [.one (.l (.s .ro pace a0)), .one (.l (.v (.int .i64 a1))), .one (.l (.v (.int .i64 a2)))] K)) (n + 1) (F36_s0 a0 a1 a2 x9_0 x29_0 m8900_0) =
    cond (decide (x29_0 < a2))
      ((F54 k m8900_0).bind fun b5 =>
        (F59 k m8900_0 a1).bind fun b6 =>
          cond (b6.2)
            (loopG (F36_E k) Try.f36 [1, 1, 1, 0, 1, 0] 0 (kontAt (F36_E k) [1, 1, 1, 0, 1, 0] (bodyOf Try.f36) 0 (endC (F36_E k) Try.f36 [.one (.l (.s .ro pace a0)), .one (.l (.v (.int .i64 a1))), .one (.l (.v (.int .i64 a2)))] K)) n (F36_s0 a0 a1 a2 (IntKind.i64.wrap (x9_0 + b5)) (IntKind.i64.wrap (x29_0 + 1)) b6.1))
            (loopG (F36_E k) Try.f36 [1, 1, 1, 0, 1, 0] 0 (kontAt (F36_E k) [1, 1, 1, 0, 1, 0] (bodyOf Try.f36) 0 (endC (F36_E k) Try.f36 [.one (.l (.s .ro pace a0)), .one (.l (.v (.int .i64 a1))), .one (.l (.v (.int .i64 a2)))] K)) n (F36_s0 a0 a1 a2 x9_0 (IntKind.i64.wrap (x29_0 + 1)) b6.1)))
      (K (.tup [(false, [.s .own pace m8900_0]), (false, [.v (.int .i64 x9_0)])], [])) := by kernel_rfl
theorem F36_l0_lp {β : Type} (k : Nat) (a0 : List (den pace)) (a1 : Int) (a2 : Int) (K : A × List (List Leaf) → Option β) (n : Nat) : ∀ (x9_0 : Int) (x29_0 : Int) (m8900_0 : List (den pace)), loopG (F36_E k) Try.f36 [1, 1, 1, 0, 1, 0] 0 (kontAt (F36_E k) [1, 1, 1, 0, 1, 0] (bodyOf Try.f36) 0 (endC (F36_E k) Try.f36 [.one (.l (.s .ro pace a0)), .one (.l (.v (.int .i64 a1))), .one (.l (.v (.int .i64 a2)))] K)) n (F36_s0 a0 a1 a2 x9_0 x29_0 m8900_0) =
    (F36_l0 k a0 a1 a2 n x9_0 x29_0 m8900_0).bind fun r => K (.tup [(false, [.s .own pace r.1]), (false, [.v (.int .i64 r.2)])], []) := by
  induction n with
  | zero => intros; rfl
  | succ n ih =>
    intros
    rw [F36_l0_rd, F36_l0]
    simp only [bind_cond, Option.bind_assoc, Option.bind_some, Option.bind_none, Option.bind_fun_some, ih]
def F36 (k : Nat) (a0 : List (den pace)) (a1 : Int) (a2 : Int) : Option (List (den pace) × Int) :=
  (F18 k a0).bind fun b1 =>
    cond ((!b1))
      (some ([], 0))
      ((F49 k a1 1 1000).bind fun b2 =>
        cond ((!b2))
          (some ([], 0))
          ((F49 k a2 0 200).bind fun b3 =>
            cond ((!b3))
              (some ([], 0))
              ((F62 k a0).bind fun b4 =>
                F36_l0 k a0 a1 a2 k 0 0 b4)))
theorem F36_st {β : Type} (k : Nat) (a0 : List (den pace)) (a1 : Int) (a2 : Int) (K : A × List (List Leaf) → Option β) : evalF (F36_E k) Try.f36 [.one (.l (.s .ro pace a0)), .one (.l (.v (.int .i64 a1))), .one (.l (.v (.int .i64 a2)))] K =
    (F18 k a0).bind fun b1 =>
      cond ((!b1))
        (K (.tup [(false, [.s .own pace []]), (false, [.v (.int .i64 0)])], []))
        ((F49 k a1 1 1000).bind fun b2 =>
          cond ((!b2))
            (K (.tup [(false, [.s .own pace []]), (false, [.v (.int .i64 0)])], []))
            ((F49 k a2 0 200).bind fun b3 =>
              cond ((!b3))
                (K (.tup [(false, [.s .own pace []]), (false, [.v (.int .i64 0)])], []))
                ((F62 k a0).bind fun b4 =>
                  loopG (F36_E k) Try.f36 [1, 1, 1, 0, 1, 0] 0 (kontAt (F36_E k) [1, 1, 1, 0, 1, 0] (bodyOf Try.f36) 0 (endC (F36_E k) Try.f36 [.one (.l (.s .ro pace a0)), .one (.l (.v (.int .i64 a1))), .one (.l (.v (.int .i64 a2)))] K)) k (F36_s0 a0 a1 a2 0 0 b4)))) := by kernel_rfl
theorem F36_ev {β : Type} (k : Nat) (a0 : List (den pace)) (a1 : Int) (a2 : Int) (K : A × List (List Leaf) → Option β) : evalF (F36_E k) Try.f36 [.one (.l (.s .ro pace a0)), .one (.l (.v (.int .i64 a1))), .one (.l (.v (.int .i64 a2)))] K = (F36 k a0 a1 a2).bind fun r => K (.tup [(false, [.s .own pace r.1]), (false, [.v (.int .i64 r.2)])], []) := by
  rw [F36_st, F36]
  simp only [bind_cond, Option.bind_assoc, Option.bind_some, Option.bind_none, Option.bind_fun_some, F36_l0_lp]
theorem F36_tOk (k : Nat) : TabFn Try.prog (F36_t k) := by
  constructor <;> intro f xs cr h <;> unfold F36_t at h <;> split at h <;> first | (simp only [Option.some.injEq] at h; subst h) | (simp at h; done)
  · exact F18_con _ _
  · exact F49_con _ _ _ _
  · exact F62_con _ _
  · exact F54_con _ _
  · exact F59_con _ _ _
  · exact .of (by kernel_rfl)
  · exact .of (by kernel_rfl)
  · exact .of (by kernel_rfl)
  · exact .of (by kernel_rfl)
  · exact .of (by kernel_rfl)
theorem F36_con (k : Nat) (a0 : List (den pace)) (a1 : Int) (a2 : Int) : Contract Try.prog 36 [.one (.l (.s .ro pace a0)), .one (.l (.v (.int .i64 a1))), .one (.l (.v (.int .i64 a2)))] ⟨F36 k a0 a1 a2, fun r => (.tup [(false, [.s .own pace r.1]), (false, [.v (.int .i64 r.2)])], [])⟩ :=
  con_of (envOk (F36_tOk k) _ _ _ _) mixed Try.func36 rfl rfl (F36_ev k a0 a1 a2 some)
/-! 12: loop.example/netstack/laws.FnExactSharedRun -/
def F12_t (k : Nat) : Tab
  | 15, [.one (.l (.s .ro (.pair (.int .i64) (.pair (.int .i64) (.int .i64))) a0)), .one (.l (.v (.int .i64 a1)))] => some ⟨F15 k a0 a1, fun r => (.one (.v (.int .i64 r)), [])⟩
  | 17, [.one (.l (.s .ro (.pair (.int .i64) (.pair (.int .i64) (.int .i64))) a0))] => some ⟨F17 k a0, fun r => (.one (.s .own pace r), [])⟩
  | 35, [.one (.l (.s .ro (.pair (.int .i64) (.pair (.int .i64) (.int .i64))) a0)), .one (.l (.v (.int .i64 a1))), .one (.l (.v (.int .i64 a2)))] => some ⟨F35 k a0 a1 a2, fun r => (.tup [(false, [.s .own pace r.1]), (false, [.v (.int .i64 r.2)])], [])⟩
  | 36, [.one (.l (.s .ro (.pair (.int .i64) (.pair (.int .i64) (.int .i64))) a0)), .one (.l (.v (.int .i64 a1))), .one (.l (.v (.int .i64 a2)))] => some ⟨F36 k a0 a1 a2, fun r => (.tup [(false, [.s .own pace r.1]), (false, [.v (.int .i64 r.2)])], [])⟩
  | 19, [.one (.l (.s .ro (.pair (.int .i64) (.pair (.int .i64) (.int .i64))) a0)), .one (.l (.s .ro (.pair (.int .i64) (.pair (.int .i64) (.int .i64))) a1))] => some ⟨F19 k a0 a1, fun r => (.one (.v (.bool r)), [])⟩
  | 31, [.one (.b (.s .own (.pair (.int .i64) (.pair (.int .i64) (.int .i64))) a0)), .one (.l (.v (.int .i64 a1)))] => some ⟨F31 k a0 a1, fun r => (.one (.v (.int .i64 r.1)), [[.s .own pace r.2]])⟩
  | 32, [.one (.l (.s .ro (.pair (.int .i64) (.pair (.int .i64) (.int .i64))) a0)), .one (.l (.v (.int .i64 a1)))] => some ⟨F32 k a0 a1, fun r => (.one (.v (.int .i64 r)), [])⟩
  | _, _ => none
abbrev F12_E (k : Nat) : Env := env (F12_t k) noHint .own [] k
def F12 (k : Nat) (a0 : List (den pace)) (a1 : Int) (a2 : Int) : Option (Bool) :=
  (F15 k a0 1048576).bind fun b1 =>
    cond (decide (b1 < 0))
      (some true)
      ((F17 k a0).bind fun b2 =>
        (F35 k b2 a1 a2).bind fun b3 =>
          (F17 k a0).bind fun b4 =>
            (F36 k b4 a1 a2).bind fun b5 =>
              (F19 k b5.1 b3.1).bind fun b6 =>
                cond ((!b6))
                  (some false)
                  (cond ((b5.2 != b3.2))
                    (some false)
                    ((F17 k a0).bind fun b7 =>
                      (F19 k b4 b7).bind fun b8 =>
                        cond ((!b8))
                          (some false)
                          ((F31 k b4 1).bind fun b9 =>
                            cond (decide (b9.1 < 0))
                              (some false)
                              ((F19 k b5.1 b3.1).bind fun b10 =>
                                cond ((!b10))
                                  (some false)
                                  (cond ((b5.2 != b3.2))
                                    (some false)
                                    ((F31 k b5.1 1).bind fun b11 =>
                                      (F32 k b11.2 1).bind fun b12 =>
                                        cond (decide (b12 < 0))
                                          (some false)
                                          (cond ((b12 != b11.1))
                                            (some false)
                                            ((F17 k a0).bind fun b13 =>
                                              (F36 k b13 a1 a2).bind fun b14 =>
                                                (F19 k b14.1 b3.1).bind fun b15 =>
                                                  cond ((!b15))
                                                    (some false)
                                                    (cond ((b14.2 != b3.2))
                                                      (some false)
                                                      ((F32 k b11.2 1).bind fun b16 =>
                                                        cond (decide (b16 < 0))
                                                          (some false)
                                                          (cond ((b16 != b11.1))
                                                            (some false)
                                                            (some true)))))))))))))
theorem F12_st {β : Type} (k : Nat) (a0 : List (den pace)) (a1 : Int) (a2 : Int) (K : A × List (List Leaf) → Option β) : evalF (F12_E k) Try.f12 [.one (.l (.s .ro pace a0)), .one (.l (.v (.int .i64 a1))), .one (.l (.v (.int .i64 a2)))] K =
    (F15 k a0 1048576).bind fun b1 =>
      cond (decide (b1 < 0))
        (K (.one (.v (.bool true)), []))
        ((F17 k a0).bind fun b2 =>
          (F35 k b2 a1 a2).bind fun b3 =>
            (F17 k a0).bind fun b4 =>
              (F36 k b4 a1 a2).bind fun b5 =>
                (F19 k b5.1 b3.1).bind fun b6 =>
                  cond ((!b6))
                    (K (.one (.v (.bool false)), []))
                    (cond ((b5.2 != b3.2))
                      (K (.one (.v (.bool false)), []))
                      ((F17 k a0).bind fun b7 =>
                        (F19 k b4 b7).bind fun b8 =>
                          cond ((!b8))
                            (K (.one (.v (.bool false)), []))
                            ((F31 k b4 1).bind fun b9 =>
                              cond (decide (b9.1 < 0))
                                (K (.one (.v (.bool false)), []))
                                ((F19 k b5.1 b3.1).bind fun b10 =>
                                  cond ((!b10))
                                    (K (.one (.v (.bool false)), []))
                                    (cond ((b5.2 != b3.2))
                                      (K (.one (.v (.bool false)), []))
                                      ((F31 k b5.1 1).bind fun b11 =>
                                        (F32 k b11.2 1).bind fun b12 =>
                                          cond (decide (b12 < 0))
                                            (K (.one (.v (.bool false)), []))
                                            (cond ((b12 != b11.1))
                                              (K (.one (.v (.bool false)), []))
                                              ((F17 k a0).bind fun b13 =>
                                                (F36 k b13 a1 a2).bind fun b14 =>
                                                  (F19 k b14.1 b3.1).bind fun b15 =>
                                                    cond ((!b15))
                                                      (K (.one (.v (.bool false)), []))
                                                      (cond ((b14.2 != b3.2))
                                                        (K (.one (.v (.bool false)), []))
                                                        ((F32 k b11.2 1).bind fun b16 =>
                                                          cond (decide (b16 < 0))
                                                            (K (.one (.v (.bool false)), []))
                                                            (cond ((b16 != b11.1))
                                                              (K (.one (.v (.bool false)), []))
                                                              (K (.one (.v (.bool true)), [])))))))))))))) := by kernel_rfl
theorem F12_ev {β : Type} (k : Nat) (a0 : List (den pace)) (a1 : Int) (a2 : Int) (K : A × List (List Leaf) → Option β) : evalF (F12_E k) Try.f12 [.one (.l (.s .ro pace a0)), .one (.l (.v (.int .i64 a1))), .one (.l (.v (.int .i64 a2)))] K = (F12 k a0 a1 a2).bind fun r => K (.one (.v (.bool r)), []) := by
  rw [F12_st, F12]
  simp only [bind_cond, Option.bind_assoc, Option.bind_some, Option.bind_none, Option.bind_fun_some]
theorem F12_tOk (k : Nat) : TabFn Try.prog (F12_t k) := by
  constructor <;> intro f xs cr h <;> unfold F12_t at h <;> split at h <;> first | (simp only [Option.some.injEq] at h; subst h) | (simp at h; done)
  · exact F15_con _ _ _
  · exact F17_con _ _
  · exact F35_con _ _ _ _
  · exact F36_con _ _ _ _
  · exact F19_con _ _ _
  · exact F31_con _ _ _
  · exact F32_con _ _ _
  · exact .of (by kernel_rfl)
  · exact .of (by kernel_rfl)
  · exact .of (by kernel_rfl)
  · exact .of (by kernel_rfl)
  · exact .of (by kernel_rfl)
  · exact .of (by kernel_rfl)
  · exact .of (by kernel_rfl)
theorem F12_con (k : Nat) (a0 : List (den pace)) (a1 : Int) (a2 : Int) : Contract Try.prog 12 [.one (.l (.s .ro pace a0)), .one (.l (.v (.int .i64 a1))), .one (.l (.v (.int .i64 a2)))] ⟨F12 k a0 a1 a2, fun r => (.one (.v (.bool r)), [])⟩ :=
  con_of (envOk (F12_tOk k) _ _ _ _) mixed Try.func12 rfl rfl (F12_ev k a0 a1 a2 some)
end Go.Proofs.Ytkbaaipnjbcnlaa.Gn
end

section
set_option linter.unusedVariables false
set_option linter.unusedSimpArgs false
/-
  Paces shared: the plain functions, in plain words.
-/
namespace Go.Proofs.Ytkbaaipnjbcnlaa.Gn
open Go.Rf Go.IntWalk

def inB (a b c : Int) : Bool := decide (b ≤ a) && decide (a ≤ c)
theorem F47_eq (k : Nat) (a b c : Int) : F47 k a b c = some (inB a b c) := by
  unfold F47 inB
  have : decide (a ≥ b) = decide (b ≤ a) := rfl
  rw [this]
  cases decide (b ≤ a) <;> rfl
theorem F49_eq (k : Nat) (a b c : Int) : F49 k a b c = some (inB a b c) := F47_eq k a b c
def okB (p : den pace) : Bool := inB p.1 1 64 && inB p.2.1 2 64 && inB p.2.2 0 (IntKind.i64.wrap (p.1 - 1))
theorem F46_eq (k : Nat) (p : den pace) : F46 k p.1 p.2.1 p.2.2 = some (okB p) := by
  unfold F46 okB
  rw [F47_eq, F47_eq, F47_eq]
  simp only [Option.bind_some]
  cases inB p.1 1 64 <;> cases inB p.2.1 2 64 <;> rfl
theorem F52_eq (k : Nat) (p : den pace) : F52 k p.1 p.2.1 p.2.2 = some (okB p) := F46_eq k p

/-- are these paces that share a way -/
def okAll (l : List (den pace)) : Bool := inB (l.length : Nat) 1 5 && l.all okB
theorem F16_eq (k : Nat) (l : List (den pace)) (hl : l.length < 2 ^ 60) (hk : l.length < k) : F16 k l = some (okAll l) := by
  have := scanLoop l (fun n (_ : Unit) j => F16_l0 k l n j) (fun _ _ a => cond (okB a) (.inl ()) (.inr false)) (fun _ => inB (l.length : Nat) 1 5)
    (fun n s j h => by
      simp only [F16_l0]
      rw [atI_get l j h, F46_eq, up1 j (by omega)]
      simp [h]
      cases okB l[j] <;> rfl)
    (fun n s => by simp [F16_l0, F47_eq]) k () 0 (Nat.zero_le _) (by omega)
  rw [scan_all, List.drop_zero] at this
  unfold okAll
  rw [Bool.and_comm]
  exact this
theorem F80_eq (k : Nat) (l : List (den pace)) (hl : l.length < 2 ^ 60) (hk : l.length < k) : ∃ r, F80 k l = some r ∧ (!(decide (r ≥ 0))) = l.all okB := by
  have := scanLoop l (fun n (_ : Unit) j => F80_l0 k l n j) (fun _ j a => cond (okB a) (.inl ()) (.inr (j : Int))) (fun _ => -1)
    (fun n s j h => by
      simp only [F80_l0, F51]
      rw [atI_get l j h, F52_eq, up1 j (by omega)]
      simp [h]
      cases okB l[j] <;> rfl)
    (fun n s => by simp [F80_l0]) k () 0 (Nat.zero_le _) (by omega)
  rw [List.drop_zero] at this
  refine ⟨_, this, ?_⟩
  have : ∀ (r : List (den pace)) (j : Nat), (!(decide (scan (fun (_ : Unit) j a => cond (okB a) (.inl ()) (.inr (j : Int))) (fun _ => (-1 : Int)) () j r ≥ 0))) = r.all okB := by
    intro r
    induction r with
    | nil => intro j; rfl
    | cons a r ih =>
      intro j
      rw [scan, List.all_cons]
      cases okB a with
      | true => simpa using ih (j + 1)
      | false => simp
  exact this l 0
theorem F18_eq (k : Nat) (l : List (den pace)) (hl : l.length < 2 ^ 60) (hk : l.length < k) : F18 k l = some (okAll l) := by
  unfold F18 okAll
  rw [F49_eq, Option.bind_some]
  cases inB (l.length : Nat) 1 5 with
  | false => rfl
  | true =>
    obtain ⟨r, h1, h2⟩ := F80_eq k l hl hk
    simp only [cond_true, F50, h1, Option.bind_some, h2, Bool.true_and]
theorem F53_self (k : Nat) (p : den pace) : F53 k p.1 p.2.1 p.2.2 p.1 p.2.1 p.2.2 = some true := by simp [F53]
theorem F19_self (k : Nat) (l : List (den pace)) (hl : l.length < 2 ^ 60) (hk : l.length < k) : F19 k l l = some true := by
  have := foldLoop l (fun n (_ : Unit) j => F19_l0 k l l n j) (fun s _ => s) (fun _ => true)
    (fun n s j h => by
      simp only [F19_l0]
      rw [atI_get l j h, F53_self, up1 j (by omega)]
      simp [h])
    (fun n s => by simp [F19_l0]) k () 0 (Nat.zero_le _) (by omega)
  unfold F19
  simp only [bne_self_eq_false, cond_false]
  exact this
theorem F17_loop (k : Nat) (l : List (den pace)) (hl : l.length < 2 ^ 60) : ∀ (n j : Nat) (m : List (den pace)), j ≤ l.length → l.length - j < n → m.length = l.length → m.take j = l.take j → F17_l0 k l n (j : Int) m = some l
  | 0, j, m, _, h, _, _ => by omega
  | n + 1, j, m, hj, h, hm, ht => by
    rw [F17_l0]
    rcases Nat.lt_or_ge j l.length with hlt | hge
    · rw [up1 j (by omega), atI_get l j hlt, F48]
      simp only [Option.bind_some]
      rw [decide_eq_true (by omega : ((j : Nat) : Int) < (l.length : Nat)), decide_eq_true (by omega : (0 : Int) ≤ (j : Nat)), decide_eq_true (by omega : ((j : Nat) : Int) < (m.length : Nat))]
      simp only [cond_true]
      refine F17_loop k l hl n (j + 1) _ hlt (by omega) (by simpa using hm) ?_
      rw [Int.toNat_natCast, List.take_add_one, List.take_add_one]
      simp only [List.getElem?_set]
      rw [if_pos trivial, if_pos (by omega), List.getElem?_eq_getElem hlt]
      congr 1
      rw [List.take_set_of_le (Nat.le_refl _)]
      exact ht
    · rw [decide_eq_false (by omega : ¬ ((j : Nat) : Int) < (l.length : Nat))]
      simp only [cond_false]
      rw [List.take_of_length_le (by omega), List.take_of_length_le (by omega)] at ht
      rw [ht]
theorem F17_eq (k : Nat) (l : List (den pace)) (hl : l.length < 2 ^ 42) (hk : l.length < k) : F17 k l = some l := by
  unfold F17
  rw [decide_eq_true (by omega : (0 : Int) ≤ ((l.length : Nat) : Int)), decide_eq_true rfl, decide_eq_true (by omega : ((l.length : Nat) : Int) * (24 : Nat) ≤ 140737488355328)]
  exact F17_loop k l (by omega) k 0 _ (Nat.zero_le _) (by omega) (by simp) (by simp)
theorem F15_eq (k : Nat) (l : List (den pace)) (hl : l.length ≤ maxLen) : F15 k l 1048576 = some (if l.length ≤ 1048576 then 1048576 - (l.length : Int) else -1) := by
  unfold F15
  have hm : maxLen = 9223372036854775807 := rfl
  rw [hm] at hl
  rw [i64_in _ (by omega)]
  by_cases h : l.length ≤ 1048576
  · rw [decide_eq_false (by omega), if_pos h]; rfl
  · rw [decide_eq_true (by omega), if_neg h]; rfl

def sumW (s : Int) (l : List (den pace)) : Int := l.foldl (fun s p => IntKind.i64.wrap (s + p.1)) s
theorem F22_eq (k : Nat) (l : List (den pace)) (hl : l.length < 2 ^ 60) (hk : l.length < k) : F22 k l = some (cond (okAll l) (sumW 0 l) (-1)) := by
  have := foldLoop l (fun n (s : Int) j => F22_l0 k l n s j) (fun s p => IntKind.i64.wrap (s + p.1)) (fun s => s)
    (fun n s j h => by
      simp only [F22_l0]
      rw [atI_get l j h, up1 j (by omega)]
      simp [h])
    (fun n s => by simp [F22_l0]) k 0 0 (Nat.zero_le _) (by omega)
  unfold F22
  rw [F16_eq k l hl hk]
  simp only [Option.bind_some]
  cases okAll l with
  | false => rfl
  | true => exact this
theorem F54_eq (k : Nat) (l : List (den pace)) (hl : l.length < 2 ^ 60) (hk : l.length < k) : F54 k l = some (sumW 0 l) := by
  have := foldLoop l (fun n (s : Int) j => F54_l0 k l n s j) (fun s p => IntKind.i64.wrap (s + p.1)) (fun s => s)
    (fun n s j h => by
      simp only [F54_l0]
      rw [atI_get l j h, up1 j (by omega)]
      simp [h])
    (fun n s => by simp [F54_l0]) k 0 0 (Nat.zero_le _) (by omega)
  exact this
theorem F23_eq (k : Nat) (l : List (den pace)) (hl : l.length < 2 ^ 60) (hk : l.length < k) : F23 k l = some (cond (okAll l) (sumW 0 l) (-1)) := by
  unfold F23
  rw [F18_eq k l hl hk, F54_eq k l hl hk]
  cases okAll l <;> rfl
theorem F5_true (l : List (den pace)) (hl : l.length ≤ maxLen) : F5 (l.length + 1) l = some true := by
  unfold F5
  rw [F15_eq _ l hl, Option.bind_some]
  by_cases h : l.length ≤ 1048576
  · rw [if_pos h, decide_eq_false (by omega), cond_false, F17_eq _ l (by omega) (by omega)]
    simp only [Option.bind_some]
    rw [F22_eq _ l (by omega) (by omega), F23_eq _ l (by omega) (by omega), Option.bind_some, Option.bind_some, F19_self _ l (by omega) (by omega)]
    simp
  · rw [if_neg h]; rfl

def farG (s : Int × Int) (p : den pace) : Int × Int := (if p.1 < s.1 then p.1 else s.1, if s.2 < p.1 then p.1 else s.2)
theorem F20_loop (k : Nat) (l : List (den pace)) (hl : l.length < 2 ^ 60) : ∀ n s j, j ≤ l.length → l.length - j < n → F20_l0 k l n s.1 s.2 (j : Int) = some (IntKind.i64.wrap (((l.drop j).foldl farG s).2 - ((l.drop j).foldl farG s).1)) :=
  foldLoop l (fun n (s : Int × Int) j => F20_l0 k l n s.1 s.2 j) farG (fun s => IntKind.i64.wrap (s.2 - s.1))
    (fun n s j h => by
      simp only [F20_l0]
      rw [atI_get l j h, up1 j (by omega)]
      simp [h, farG])
    (fun n s => by simp [F20_l0])
theorem F21_loop (k : Nat) (l : List (den pace)) (hl : l.length < 2 ^ 60) : ∀ n s j, j ≤ l.length → l.length - j < n → F21_l0 k l n s.1 s.2 (j : Int) = some (IntKind.i64.wrap (((l.drop j).foldl farG s).2 - ((l.drop j).foldl farG s).1)) :=
  foldLoop l (fun n (s : Int × Int) j => F21_l0 k l n s.1 s.2 j) farG (fun s => IntKind.i64.wrap (s.2 - s.1))
    (fun n s j h => by
      simp only [F21_l0]
      rw [atI_get l j h, up1 j (by omega)]
      simp [h, farG])
    (fun n s => by simp [F21_l0])
theorem okB_win {p : den pace} (h : okB p = true) : @LE.le Int _ 1 p.1 ∧ @LE.le Int _ p.1 64 := by
  unfold okB inB at h
  simp only [Bool.and_eq_true, decide_eq_true_eq] at h
  exact h.1.1
theorem mn64 (x : Int) (h : x ≤ 64) : (if x < 64 then x else 64) = x := by split <;> omega
theorem mx0 (x : Int) (h : 1 ≤ x) : (if 0 < x then x else 0) = x := by split <;> omega
theorem far_eq (k : Nat) (l : List (den pace)) (hl : l.length < 2 ^ 60) (hk : l.length < k) : ∃ r, F20 k l = some r ∧ F21 k l = some r := by
  unfold F20 F21
  rw [F16_eq k l hl hk, F18_eq k l hl hk]
  simp only [Option.bind_some]
  cases hok : okAll l with
  | false => exact ⟨_, rfl, rfl⟩
  | true =>
    simp only [Bool.not_true, cond_false]
    have h1 := F20_loop k l hl k (64, 0) 0 (Nat.zero_le _) (by omega)
    have h2 := F21_loop k l hl k ((atI l 0).1, (atI l 0).1) 0 (Nat.zero_le _) (by omega)
    unfold okAll at hok
    rw [Bool.and_eq_true] at hok
    cases l with
    | nil => exact absurd hok.1 (by decide)
    | cons p r =>
      have hp : okB p = true := by have := hok.2; rw [List.all_cons, Bool.and_eq_true] at this; exact this.1
      obtain ⟨hp1, hp2⟩ := okB_win hp
      have e1 : farG (64, 0) p = (p.1, p.1) := by
        unfold farG
        simp only
        refine Prod.ext ?_ ?_
        · exact mn64 p.1 hp2
        · exact mx0 p.1 hp1
      have e2 : farG (p.1, p.1) p = (p.1, p.1) := by
        unfold farG
        refine Prod.ext ?_ ?_ <;> simp only <;> split <;> rfl
      have h0 : (atI (p :: r) 0).1 = p.1 := rfl
      rw [h0] at h2 ⊢
      simp only [List.drop_zero, List.foldl_cons, e1, e2] at h1 h2
      rw [decide_eq_true (by simp : (0 : Int) < (((p :: r).length : Nat) : Int))]
      exact ⟨_, h1, h2⟩
theorem F4_true (l : List (den pace)) (hl : l.length ≤ maxLen) : F4 (l.length + 1) l = some true := by
  unfold F4
  rw [F15_eq _ l hl, Option.bind_some]
  by_cases h : l.length ≤ 1048576
  · rw [if_pos h, decide_eq_false (by omega), cond_false, F17_eq _ l (by omega) (by omega)]
    simp only [Option.bind_some]
    obtain ⟨r, h1, h2⟩ := far_eq (l.length + 1) l (by omega) (by omega)
    rw [h1, h2, Option.bind_some, Option.bind_some, F19_self _ l (by omega) (by omega)]
    simp
  · rw [if_neg h]; rfl
theorem pure4 (l : List (den pace)) (hw : Wf (.sl pace) l) (_ : l.length * 24 ≤ 140737488351232) :
    ∃ k, (∀ l, Contract Try.prog 4 [.one (.l (.s .ro pace l))] ⟨F4 k l, fun r => (.one (.v (.bool r)), [])⟩) ∧ F4 k l = some true :=
  ⟨l.length + 1, fun l => F4_con _ l, F4_true l hw.1⟩
theorem pure5 (l : List (den pace)) (hw : Wf (.sl pace) l) (_ : l.length * 24 ≤ 140737488351232) :
    ∃ k, (∀ l, Contract Try.prog 5 [.one (.l (.s .ro pace l))] ⟨F5 k l, fun r => (.one (.v (.bool r)), [])⟩) ∧ F5 k l = some true :=
  ⟨l.length + 1, fun l => F5_con _ l, F5_true l hw.1⟩
end Go.Proofs.Ytkbaaipnjbcnlaa.Gn
end

section
set_option linter.unusedVariables false
set_option linter.unusedSimpArgs false
/-
  Rounds of those that share a way: the plain functions, in plain words.
-/
namespace Go.Proofs.Ytkbaaipnjbcnlaa.Gn
open Go.Rf Go.IntWalk

/-! ### a pace -/
def heardP (p : den pace) : den pace :=
  if okB p then
    (if p.1 < p.2.1 then (IntKind.i64.wrap (p.1 + 1), p.2.1, 0)
     else if IntKind.i64.wrap (p.2.2 + 1) < p.1 then (p.1, p.2.1, IntKind.i64.wrap (p.2.2 + 1))
     else ((if 64 < IntKind.i64.wrap (p.1 + 1) then 64 else IntKind.i64.wrap (p.1 + 1)), p.2.1, 0))
  else (0, 0, 0)
def lostP (p : den pace) : den pace :=
  if okB p then ((if IntKind.i64.wrap (p.1.tdiv 2) < 2 then 2 else IntKind.i64.wrap (p.1.tdiv 2)), (if IntKind.i64.wrap (p.1.tdiv 2) < 2 then 2 else IntKind.i64.wrap (p.1.tdiv 2)), 0) else (0, 0, 0)
theorem F60_eq (k : Nat) (p : den pace) : F60 k p.1 p.2.1 p.2.2 = some (heardP p) := by
  unfold F60 heardP
  rw [F46_eq, Option.bind_some]
  cases okB p with
  | false => rfl
  | true =>
    simp only [Bool.not_true, cond_false, if_true]
    by_cases h1 : p.1 < p.2.1
    · rw [decide_eq_true h1, if_pos h1]; rfl
    · rw [decide_eq_false h1, if_neg h1, cond_false]
      by_cases h2 : IntKind.i64.wrap (p.2.2 + 1) < p.1
      · rw [decide_eq_true h2, if_pos h2]; rfl
      · rw [decide_eq_false h2, if_neg h2]; rfl
theorem min_flip (a b : Int) : (if a < b then a else b) = if b < a then b else a := by
  split <;> split <;> omega
theorem F85_eq (k : Nat) (p : den pace) : F85 k p.1 p.2.1 p.2.2 = some (heardP p) := by
  rw [← F60_eq k p]
  unfold F85 F60
  rw [F46_eq, F52_eq]
  rw [min_flip]
theorem max_flip (a b : Int) : (if b < a then a else b) = if a < b then b else a := by
  split <;> split <;> omega
theorem F61_eq (k : Nat) (p : den pace) : F61 k p.1 p.2.1 p.2.2 = some (lostP p) := by
  unfold F61 lostP
  rw [F46_eq, Option.bind_some]
  cases okB p <;> rfl
theorem F84_eq (k : Nat) (p : den pace) : F84 k p.1 p.2.1 p.2.2 = some (lostP p) := by
  rw [← F61_eq k p]
  unfold F84 F61
  rw [F46_eq, F52_eq]
  rw [max_flip]

theorem okB_iff (a b c : Int) : okB (a, b, c) = true ↔ (1 ≤ a ∧ a ≤ 64) ∧ (2 ≤ b ∧ b ≤ 64) ∧ (0 ≤ c ∧ c ≤ a - 1) := by
  unfold okB inB
  simp only [Bool.and_eq_true, decide_eq_true_eq]
  constructor
  · rintro ⟨⟨h1, h2⟩, h3⟩
    rw [i64_in _ (by omega)] at h3
    exact ⟨h1, h2, h3⟩
  · rintro ⟨h1, h2, h3⟩
    rw [i64_in _ (by omega)]
    exact ⟨⟨h1, h2⟩, h3⟩
theorem heard_ok' (a b c : Int) (h : (1 ≤ a ∧ a ≤ 64) ∧ (2 ≤ b ∧ b ≤ 64) ∧ (0 ≤ c ∧ c ≤ a - 1)) :
    okB (if a < b then (IntKind.i64.wrap (a + 1), b, 0)
     else if IntKind.i64.wrap (c + 1) < a then (a, b, IntKind.i64.wrap (c + 1))
     else ((if 64 < IntKind.i64.wrap (a + 1) then 64 else IntKind.i64.wrap (a + 1)), b, 0)) = true := by
  rw [i64_in (a + 1) (by omega), i64_in (c + 1) (by omega)]
  split
  · exact (okB_iff _ _ _).2 (by omega)
  · split
    · exact (okB_iff _ _ _).2 (by omega)
    · split
      · exact (okB_iff _ _ _).2 (by omega)
      · exact (okB_iff _ _ _).2 (by omega)
theorem heardP_ok (p : den pace) (h : okB p = true) : okB (heardP p) = true := by
  obtain ⟨a, b, c⟩ := p
  unfold heardP
  rw [if_pos h]
  exact heard_ok' a b c ((okB_iff a b c).1 h)
theorem lost_ok' (a b c : Int) (h : (1 ≤ a ∧ a ≤ 64) ∧ (2 ≤ b ∧ b ≤ 64) ∧ (0 ≤ c ∧ c ≤ a - 1)) :
    okB ((if IntKind.i64.wrap (a.tdiv 2) < 2 then 2 else IntKind.i64.wrap (a.tdiv 2)), (if IntKind.i64.wrap (a.tdiv 2) < 2 then 2 else IntKind.i64.wrap (a.tdiv 2)), 0) = true := by
  have hd : a.tdiv 2 = a / 2 := Int.tdiv_eq_ediv_of_nonneg (by omega)
  rw [hd, i64_in (a / 2) (by omega), okB_iff]
  split <;> omega
theorem lostP_ok (p : den pace) (h : okB p = true) : okB (lostP p) = true := by
  obtain ⟨a, b, c⟩ := p
  unfold lostP
  rw [if_pos h]
  exact lost_ok' a b c ((okB_iff a b c).1 h)

def iter {α : Type} (f : α → α) : Nat → α → α
  | 0, x => x
  | n + 1, x => iter f n (f x)
theorem iter_ok (n : Nat) (p : den pace) (h : okB p = true) : okB (iter heardP n p) = true := by
  induction n generalizing p with
  | zero => exact h
  | succ n ih => exact ih _ (heardP_ok p h)
/-- a pace, a round later -/
def stepP (fine : Bool) (p : den pace) : den pace := cond fine (iter heardP (Int.toNat p.1) p) (lostP p)
theorem stepP_ok (f : Bool) (p : den pace) (h : okB p = true) : okB (stepP f p) = true := by
  cases f
  · exact lostP_ok p h
  · exact iter_ok _ p h

/-! ### a round -/
theorem F30_l2_eq (k : Nat) (l : List (den pace)) (a : Int) (f : Bool) (i : Int) (m : List (den pace)) : ∀ (n c : Nat) (p : den pace), c < n → c < 1000 →
    F30_l2 k l a n f i (c : Int) m p.1 p.2.1 p.2.2 = some (f, i, 0, m, (iter heardP c p).1, (iter heardP c p).2.1, (iter heardP c p).2.2)
  | 0, c, p, h, _ => by omega
  | n + 1, 0, p, h, _ => by
    rw [F30_l2]
    rfl
  | n + 1, c + 1, p, h, hc => by
    rw [F30_l2, F60_eq, Option.bind_some]
    rw [decide_eq_true (by omega : ((c + 1 : Nat) : Int) > 0), cond_true]
    have : IntKind.i64.wrap (((c + 1 : Nat) : Int) - 1) = (c : Int) := by rw [i64_in _ (by omega)]; omega
    rw [this]
    exact F30_l2_eq k l a f i m n c (heardP p) (by omega) (by omega)

theorem F30_l0_eq (k : Nat) (hk : 100 ≤ k) (l : List (den pace)) (hl : l.length ≤ 5) (hok : l.all okB = true) (a : Int) (f : Bool) : ∀ (n j : Nat) (m : List (den pace)), j ≤ l.length → l.length - j < n → m.length ≤ j →
    F30_l0 k l a n f (j : Int) m = some (m ++ (l.drop j).map (stepP f), f)
  | 0, j, m, _, h, _ => by omega
  | n + 1, j, m, hj, h, hm => by
    rw [F30_l0]
    rcases Nat.lt_or_ge j l.length with hlt | hge
    · have hp : okB l[j] = true := List.all_eq_true.1 hok _ (List.getElem_mem hlt)
      have hw := okB_win hp
      rw [decide_eq_true (by omega : ((j : Nat) : Int) < (l.length : Nat)), decide_eq_true (by omega : (0 : Int) ≤ (j : Nat))]
      simp only [cond_true]
      rw [atI_get l j hlt, List.drop_eq_getElem_cons hlt, List.map_cons]
      have hdec : decide ((m.length + [stepP f l[j]].length) * 24 ≤ 140737488355328) = true := by simp; omega
      cases f with
      | true =>
        simp only [cond_true]
        have hc : ((Int.toNat l[j].1 : Nat) : Int) = l[j].1 := Int.toNat_of_nonneg (by have := hw.1; exact Int.le_trans (by decide) this)
        have hb : Int.toNat l[j].1 ≤ 64 := by have h2 := hw.2; exact Int.toNat_le.2 h2
        have := F30_l2_eq k l a true (j : Int) m k (Int.toNat l[j].1) l[j] (by omega) (by omega)
        rw [hc] at this
        rw [this, Option.bind_some]
        simp only
        rw [show decide ((m.length + [((iter heardP (Int.toNat l[j].1) l[j]).1, (iter heardP (Int.toNat l[j].1) l[j]).2.1, (iter heardP (Int.toNat l[j].1) l[j]).2.2)].length) * 24 ≤ 140737488355328) = true from hdec, cond_true, up1 j (by omega)]
        have ih := F30_l0_eq k hk l hl hok a true n (j + 1) (m ++ [stepP true l[j]]) hlt (by omega) (by simp; omega)
        rw [List.append_assoc] at ih
        exact ih
      | false =>
        simp only [cond_false]
        rw [F61_eq, Option.bind_some, show decide ((m.length + [lostP l[j]].length) * 24 ≤ 140737488355328) = true from hdec, cond_true, up1 j (by omega)]
        have ih := F30_l0_eq k hk l hl hok a false n (j + 1) (m ++ [stepP false l[j]]) hlt (by omega) (by simp; omega)
        rw [List.append_assoc] at ih
        exact ih
    · rw [decide_eq_false (by omega : ¬ ((j : Nat) : Int) < (l.length : Nat))]
      simp only [cond_false]
      rw [List.drop_eq_nil_of_le hge]
      simp

/-- a round of those that share a way -/
def stepL (l : List (den pace)) (a : Int) : List (den pace) × Bool := (l.map (stepP (decide (sumW 0 l ≤ a))), decide (sumW 0 l ≤ a))
theorem okAll_len {l : List (den pace)} (h : okAll l = true) : l.length ≤ 5 ∧ l.all okB = true := by
  unfold okAll inB at h
  simp only [Bool.and_eq_true, decide_eq_true_eq] at h
  exact ⟨by omega, h.2⟩
theorem okAll_step {l : List (den pace)} (h : okAll l = true) (a : Int) : okAll (stepL l a).1 = true := by
  unfold okAll at h ⊢
  rw [Bool.and_eq_true] at h ⊢
  refine ⟨by simpa [stepL] using h.1, ?_⟩
  simp only [stepL]
  rw [List.all_map]
  rw [List.all_eq_true]
  intro p hp
  exact stepP_ok _ p (List.all_eq_true.1 h.2 p hp)
theorem F30_ok (k : Nat) (hk : 100 ≤ k) (l : List (den pace)) (h : okAll l = true) (a : Int) : F30 k l a = some (cond (inB a 1 1000) (stepL l a) ([], false)) := by
  obtain ⟨h5, hok⟩ := okAll_len h
  unfold F30
  rw [F16_eq k l (by omega) (by omega), Option.bind_some, h, F47_eq, Option.bind_some]
  simp only [Bool.not_true, cond_false]
  cases inB a 1 1000 with
  | false => rfl
  | true =>
    simp only [Bool.not_true, cond_false]
    rw [F22_eq k l (by omega) (by omega), h]
    simp only [Option.bind_some, cond_true]
    have := F30_l0_eq k hk l h5 hok a (decide (sumW 0 l ≤ a)) k 0 [] (Nat.zero_le _) (by omega) (Nat.zero_le _)
    rw [List.drop_zero, List.nil_append] at this
    exact this
theorem F30_no (k : Nat) (l : List (den pace)) (hl : l.length < 2 ^ 60) (hk : l.length < k) (h : okAll l = false) (a : Int) : F30 k l a = some ([], false) := by
  unfold F30
  rw [F16_eq k l hl hk, Option.bind_some, h]
  rfl

theorem F59_l2_eq (k : Nat) (l : List (den pace)) (a : Int) (f : Bool) (q : Int) (w : Nat) (hw : w ≤ 64) (i : Nat) : ∀ (n c : Nat) (m : List (den pace)) (h : i < m.length), c ≤ w → w - c < n →
    F59_l2 k l a n f (i : Int) q (i : Int) (w : Int) (c : Int) m = some (f, (i : Int), q, (i : Int), (w : Int), (w : Int), m.set i (iter heardP (w - c) m[i]))
  | 0, c, m, h, _, hn => by omega
  | n + 1, c, m, h, hc, hn => by
    rw [F59_l2]
    rcases Nat.lt_or_ge c w with hlt | hge
    · rw [decide_eq_true (by omega : ((c : Nat) : Int) < (w : Nat)), decide_eq_true (by omega : (0 : Int) ≤ (i : Nat)), decide_eq_true (by omega : ((i : Nat) : Int) < (m.length : Nat))]
      simp only [cond_true]
      rw [atI_get m i h, F85_eq, Option.bind_some, up1 c (by omega), Int.toNat_natCast]
      have ih := F59_l2_eq k l a f q w hw i n (c + 1) (m.set i (heardP m[i])) (by simpa using h) hlt (by omega)
      rw [ih]
      simp only [List.getElem_set_self, List.set_set]
      rw [show w - c = (w - (c + 1)) + 1 by omega]
      rfl
    · have : c = w := by omega
      subst this
      rw [decide_eq_false (by omega : ¬ ((c : Nat) : Int) < (c : Nat)), cond_false]
      simp [iter]

theorem F59_l0_eq (k : Nat) (hk : 100 ≤ k) (l0 : List (den pace)) (a : Int) (f : Bool) (l : List (den pace)) (hl : l.length ≤ 5) (hok : l.all okB = true) : ∀ (n j : Nat) (m : List (den pace)), j ≤ l.length → l.length - j < n → m = (l.take j).map (stepP f) ++ l.drop j →
    F59_l0 k l0 a n f (l.length : Nat) (j : Int) m = some (l.map (stepP f), f)
  | 0, j, m, _, h, _ => by omega
  | n + 1, j, m, hj, h, hm => by
    have hml : m.length = l.length := by rw [hm]; simp; omega
    rw [F59_l0]
    rcases Nat.lt_or_ge j l.length with hlt | hge
    · have hp : okB l[j] = true := List.all_eq_true.1 hok _ (List.getElem_mem hlt)
      have hw := okB_win hp
      have hmj : m[j]'(by omega) = l[j] := by
        simp only [hm]
        rw [List.getElem_append_right (by simp; omega)]
        simp [Nat.min_eq_left hj]
      rw [decide_eq_true (by omega : ((j : Nat) : Int) < (l.length : Nat)), decide_eq_true (by omega : (0 : Int) ≤ (j : Nat)), decide_eq_true (by omega : ((j : Nat) : Int) < (m.length : Nat))]
      simp only [cond_true]
      rw [atI_get m j (by omega), hmj]
      have hset : m.set j (stepP f l[j]) = (l.take (j + 1)).map (stepP f) ++ l.drop (j + 1) := by
        rw [hm, List.set_append_right _ _ (by simp; omega)]
        simp only [List.length_map, List.length_take, Nat.min_eq_left hj, Nat.sub_self]
        rw [List.drop_eq_getElem_cons hlt, List.set_cons_zero, List.take_add_one, List.getElem?_eq_getElem hlt, List.map_append]
        simp only [Option.toList, List.map_cons, List.map_nil, List.append_assoc, List.singleton_append]
      cases f with
      | false =>
        simp only [Bool.not_false, cond_true]
        rw [F84_eq, Option.bind_some, up1 j (by omega), Int.toNat_natCast]
        exact F59_l0_eq k hk l0 a false l hl hok n (j + 1) _ hlt (by omega) hset
      | true =>
        simp only [Bool.not_true, cond_false]
        have hc : ((Int.toNat l[j].1 : Nat) : Int) = l[j].1 := Int.toNat_of_nonneg (by have := hw.1; exact Int.le_trans (by decide) this)
        have hb : Int.toNat l[j].1 ≤ 64 := by have h2 := hw.2; exact Int.toNat_le.2 h2
        have := F59_l2_eq k l0 a true (l.length : Nat) (Int.toNat l[j].1) hb j k 0 m (by omega) (Nat.zero_le _) (by omega)
        rw [hc, hmj] at this
        rw [show (0 : Int) = ((0 : Nat) : Int) from rfl, this, Option.bind_some]
        simp only [Nat.sub_zero]
        rw [up1 j (by omega)]
        exact F59_l0_eq k hk l0 a true l hl hok n (j + 1) _ hlt (by omega) hset
    · have : j = l.length := by omega
      subst this
      rw [decide_eq_false (by omega : ¬ ((l.length : Nat) : Int) < (l.length : Nat)), cond_false]
      rw [hm, List.take_length, List.drop_length, List.append_nil]

theorem F62_eq (k : Nat) (l : List (den pace)) (hl : l.length < 2 ^ 42) : F62 k l = some l := by
  unfold F62
  cases l with
  | nil => rfl
  | cons p r =>
    have h1 : ((((p :: r).length : Nat) : Int) == 0) = false := by simp; omega
    rw [h1, cond_false, decide_eq_true (by simp at hl ⊢; omega), cond_true]
    simp [F86]
    rw [decide_eq_true (by omega)]
    simp
theorem F59_ok (k : Nat) (hk : 100 ≤ k) (l : List (den pace)) (h : okAll l = true) (a : Int) : F59 k l a = some (stepL l a) := by
  obtain ⟨h5, hok⟩ := okAll_len h
  unfold F59
  rw [F54_eq k l (by omega) (by omega), Option.bind_some, F62_eq k l (by omega), Option.bind_some]
  exact F59_l0_eq k hk l a (decide (sumW 0 l ≤ a)) l h5 hok k 0 l (Nat.zero_le _) (by omega) (by simp)
theorem F29_ok (k : Nat) (hk : 100 ≤ k) (l : List (den pace)) (h : okAll l = true) (a : Int) : F29 k l a = some (cond (inB a 1 1000) (stepL l a) ([], false)) := by
  obtain ⟨h5, hok⟩ := okAll_len h
  unfold F29
  rw [F18_eq k l (by omega) (by omega), Option.bind_some, h, F49_eq, Option.bind_some]
  simp only [Bool.not_true, cond_false]
  cases inB a 1 1000 with
  | false => rfl
  | true =>
    simp only [Bool.not_true, cond_false]
    rw [F59_ok k hk l h]
    rfl
theorem F29_no (k : Nat) (l : List (den pace)) (hl : l.length < 2 ^ 60) (hk : l.length < k) (h : okAll l = false) (a : Int) : F29 k l a = some ([], false) := by
  unfold F29
  rw [F18_eq k l hl hk, Option.bind_some, h]
  rfl
theorem step_same (k : Nat) (hk : 100 ≤ k) (l : List (den pace)) (hl : l.length < 2 ^ 60) (hk2 : l.length < k) (a : Int) : ∃ r, F30 k l a = some r ∧ F29 k l a = some r ∧ r.1.length ≤ 5 := by
  cases h : okAll l with
  | false => exact ⟨_, F30_no k l hl hk2 h a, F29_no k l hl hk2 h a, Nat.zero_le _⟩
  | true =>
    refine ⟨_, F30_ok k hk l h a, F29_ok k hk l h a, ?_⟩
    cases inB a 1 1000 with
    | false => exact Nat.zero_le _
    | true => simp [stepL]; exact (okAll_len h).1

/-! ### marks -/
def markL : Int → List (den pace) → List (den pace)
  | _, [] => []
  | x, _ :: r => (x, x + 1, x + 2) :: markL (x + 3) r
theorem markL_len : ∀ (x : Int) (l : List (den pace)), (markL x l).length = l.length
  | _, [] => rfl
  | x, _ :: r => by simp [markL, markL_len (x + 3) r]
theorem atI_set {l : List (den pace)} {j : Nat} (h : j < l.length) (p : den pace) : atI (l.set j p) (j : Int) = p := by
  rw [atI_get _ j (by simpa using h)]
  simp
theorem take_set_succ {α : Type} {l : List α} {j : Nat} (h : j < l.length) (p : α) : (l.set j p).take (j + 1) = l.take j ++ [p] := by
  rw [List.take_add_one, List.take_set_of_le (Nat.le_refl _), List.getElem?_set_self h]
  rfl
theorem F31_l0_eq (k : Nat) (l0 : List (den pace)) (a : Int) : ∀ (n : Nat) (x : Int) (j : Nat) (m : List (den pace)), j ≤ m.length → m.length - j < n → 0 ≤ x → x + 3 * ((m.length - j : Nat) : Int) < 2 ^ 60 → m.length < 2 ^ 50 →
    F31_l0 k l0 a n x (j : Int) m = some (x + 3 * ((m.length - j : Nat) : Int), m.take j ++ markL x (m.drop j))
  | 0, x, j, m, _, h, _, _, _ => by omega
  | n + 1, x, j, m, hj, h, hx, hb, hm => by
    rw [F31_l0]
    rcases Nat.lt_or_ge j m.length with hlt | hge
    · have hlt1 : ∀ (p : den pace), j < (m.set j p).length := fun p => by simpa using hlt
      simp only [Int.toNat_natCast, List.set_set, atI_set hlt, List.length_set]
      rw [decide_eq_true (by omega : ((j : Nat) : Int) < (m.length : Nat)), decide_eq_true (by omega : (0 : Int) ≤ (j : Nat))]
      simp only [cond_true]
      rw [i64_in (x + 1) (by omega), i64_in (x + 1 + 1) (by omega), i64_in (x + 1 + 1 + 1) (by omega), up1 j (by omega)]
      have ih := F31_l0_eq k l0 a n (x + 1 + 1 + 1) (j + 1) (m.set j (x, x + 1, x + 1 + 1)) (by simp; omega) (by simp; omega) (by omega) (by simp; omega) (by simpa using hm)
      rw [ih]
      simp only [List.length_set]
      congr 2
      · omega
      · rw [List.drop_eq_getElem_cons hlt, markL, take_set_succ hlt, List.drop_set_of_lt (by omega), List.append_assoc]
        rw [show x + 1 + 1 + 1 = x + 3 by omega, show x + 1 + 1 = x + 2 by omega]
        rfl
    · have : j = m.length := by omega
      subst this
      rw [decide_eq_false (by omega : ¬ ((m.length : Nat) : Int) < (m.length : Nat)), cond_false]
      simp [markL]
theorem F31_eq (k : Nat) (m : List (den pace)) (hk : m.length < k) (hm : m.length < 2 ^ 50) : F31 k m 1 = some (1 + 3 * (m.length : Int), markL 1 m) := by
  have := F31_l0_eq k m 1 k 1 0 m (Nat.zero_le _) (by omega) (by omega) (by omega) hm
  unfold F31
  simpa using this
theorem F32_l0_eq (k : Nat) (l : List (den pace)) (a : Int) (hl : l.length < 2 ^ 50) : ∀ (n : Nat) (x : Int) (j : Nat) (r : List (den pace)), j ≤ l.length → l.length - j < n → 0 ≤ x → x + 3 * ((l.length - j : Nat) : Int) < 2 ^ 60 → l.drop j = markL x r →
    F32_l0 k l a n x (j : Int) = some (x + 3 * ((l.length - j : Nat) : Int))
  | 0, x, j, r, _, h, _, _, _ => by omega
  | n + 1, x, j, r, hj, h, hx, hb, hr => by
    rw [F32_l0]
    rcases Nat.lt_or_ge j l.length with hlt | hge
    · rw [List.drop_eq_getElem_cons hlt] at hr
      cases r with
      | nil => simp [markL] at hr; omega
      | cons p r =>
        simp only [markL, List.cons.injEq] at hr
        rw [decide_eq_true (by omega : ((j : Nat) : Int) < (l.length : Nat)), decide_eq_true (by omega : (0 : Int) ≤ (j : Nat))]
        rw [atI_get l j hlt, hr.1]
        rw [i64_in (x + 1) (by omega), i64_in (x + 1 + 1) (by omega), i64_in (x + 1 + 1 + 1) (by omega), up1 j (by omega)]
        have e : x + 1 + 1 = x + 2 := by omega
        simp only [cond_true, e, bne_self_eq_false, cond_false]
        rw [F32_l0_eq k l a hl n (x + 2 + 1) (j + 1) r hlt (by omega) (by omega) (by omega) (by rw [hr.2]; congr 1; omega)]
        congr 1
        omega
    · have : j = l.length := by omega
      subst this
      rw [decide_eq_false (by omega : ¬ ((l.length : Nat) : Int) < (l.length : Nat)), cond_false]
      simp
theorem F32_eq (k : Nat) (m : List (den pace)) (hk : m.length < k) (hm : m.length < 2 ^ 50) : F32 k (markL 1 m) 1 = some (1 + 3 * (m.length : Int)) := by
  have hl := markL_len 1 m
  have := F32_l0_eq k (markL 1 m) 1 (by omega) k 1 0 m (Nat.zero_le _) (by omega) (by omega) (by omega) rfl
  rw [hl] at this
  unfold F32
  simpa using this

theorem F10_true (l : List (den pace)) (hl : l.length ≤ maxLen) (a : Int) : F10 (l.length + 1000) l a = some true := by
  unfold F10
  rw [F15_eq _ l hl, Option.bind_some]
  by_cases h : l.length ≤ 1048576
  · rw [if_pos h, decide_eq_false (by omega), cond_false, F17_eq _ l (by omega) (by omega)]
    simp only [Option.bind_some]
    obtain ⟨r, h1, h2, h3⟩ := step_same (l.length + 1000) (by omega) l (by omega) (by omega) a
    rw [h1, h2]
    simp only [Option.bind_some]
    rw [F19_self _ r.1 (by omega) (by omega), F19_self _ l (by omega) (by omega), F31_eq _ l (by omega) (by omega), F31_eq _ r.1 (by omega) (by omega)]
    simp only [Option.bind_some]
    rw [F32_eq _ r.1 (by omega) (by omega)]
    simp only [Option.bind_some, Bool.not_true, cond_false, beq_self_eq_true, bne_self_eq_false]
    rw [decide_eq_false (by omega), decide_eq_false (by omega)]
    rfl
  · rw [if_neg h]; rfl
end Go.Proofs.Ytkbaaipnjbcnlaa.Gn
end

section
set_option linter.unusedVariables false
set_option linter.unusedSimpArgs false
/-
  Many rounds of those that share a way: the plain functions, in plain words.
-/
namespace Go.Proofs.Ytkbaaipnjbcnlaa.Gn
open Go.Rf Go.IntWalk
theorem run_loop (k : Nat) (hk : 100 ≤ k) (l l' : List (den pace)) (a : Int) (ha : inB a 1 1000 = true) (w : Nat) (hw : w ≤ 200) : ∀ (n j : Nat) (x : Int) (m : List (den pace)), j ≤ w → w - j < n → okAll m = true →
    ∃ r, F35_l0 k l a (w : Int) n x (j : Int) m = some r ∧ F36_l0 k l' a (w : Int) n x (j : Int) m = some r ∧ r.1.length ≤ 5
  | 0, j, x, m, _, h, _ => by omega
  | n + 1, j, x, m, hj, h, hm => by
    rw [F35_l0, F36_l0]
    rcases Nat.lt_or_ge j w with hlt | hge
    · rw [decide_eq_true (by omega : ((j : Nat) : Int) < (w : Nat))]
      simp only [cond_true]
      have h5 := (okAll_len hm).1
      rw [F30_ok k hk m hm, F59_ok k hk m hm, F54_eq k m (by omega) (by omega), F22_eq k m (by omega) (by omega), ha, hm, up1 j (by omega)]
      simp only [Option.bind_some, cond_true]
      cases (stepL m a).2 with
      | true => exact run_loop k hk l l' a ha w hw n (j + 1) _ _ hlt (by omega) (okAll_step hm a)
      | false => exact run_loop k hk l l' a ha w hw n (j + 1) _ _ hlt (by omega) (okAll_step hm a)
    · rw [decide_eq_false (by omega : ¬ ((j : Nat) : Int) < (w : Nat))]
      exact ⟨_, rfl, rfl, (okAll_len hm).1⟩
theorem run_same (k : Nat) (hk : 300 ≤ k) (l : List (den pace)) (hl : l.length < 2 ^ 40) (hk2 : l.length < k) (a b : Int) : ∃ r, F35 k l a b = some r ∧ F36 k l a b = some r ∧ r.1.length ≤ 5 := by
  unfold F35 F36
  rw [F16_eq k l (by omega) hk2, F18_eq k l (by omega) hk2, F47_eq, F47_eq, F49_eq, F49_eq, F62_eq k l (by omega)]
  simp only [Option.bind_some]
  cases hok : okAll l with
  | false => exact ⟨_, rfl, rfl, Nat.zero_le _⟩
  | true =>
    simp only [Bool.not_true, cond_false]
    cases ha : inB a 1 1000 with
    | false => exact ⟨_, rfl, rfl, Nat.zero_le _⟩
    | true =>
      simp only [Bool.not_true, cond_false]
      cases hb : inB b 0 200 with
      | false => exact ⟨_, rfl, rfl, Nat.zero_le _⟩
      | true =>
        simp only [Bool.not_true, cond_false]
        rw [decide_eq_true (by simp; omega : (([] : List (den pace)).length + l.length) * 24 ≤ 140737488355328), cond_true, List.nil_append]
        unfold inB at hb
        simp only [Bool.and_eq_true, decide_eq_true_eq] at hb
        obtain ⟨w, rfl⟩ := Int.eq_ofNat_of_zero_le hb.1
        exact run_loop k (by omega) l l a ha w (by omega) k 0 0 l (Nat.zero_le _) (by omega) hok
theorem F12_true (l : List (den pace)) (hl : l.length ≤ maxLen) (a b : Int) : F12 (l.length + 1000) l a b = some true := by
  unfold F12
  rw [F15_eq _ l hl, Option.bind_some]
  by_cases h : l.length ≤ 1048576
  · rw [if_pos h, decide_eq_false (by omega), cond_false, F17_eq _ l (by omega) (by omega)]
    simp only [Option.bind_some]
    obtain ⟨r, h1, h2, h3⟩ := run_same (l.length + 1000) (by omega) l (by omega) (by omega) a b
    rw [h1, h2]
    simp only [Option.bind_some]
    rw [F19_self _ r.1 (by omega) (by omega), F19_self _ l (by omega) (by omega), F31_eq _ l (by omega) (by omega), F31_eq _ r.1 (by omega) (by omega)]
    simp only [Option.bind_some]
    rw [F32_eq _ r.1 (by omega) (by omega)]
    simp only [Option.bind_some, Bool.not_true, cond_false, beq_self_eq_true, bne_self_eq_false]
    rw [decide_eq_false (by omega), decide_eq_false (by omega)]
    rfl
  · rw [if_neg h]; rfl
end Go.Proofs.Ytkbaaipnjbcnlaa.Gn
namespace Go.Proofs.Ytkbaaipnjbcnlaa.Gn
open Go.Rf
theorem pure10 (l : List (den pace)) (hw : Wf (.sl pace) l) (_ : l.length * 24 ≤ 140737488351232) (a : Int) (_ : (Lit.int .i64 a).wf = true) :
    ∃ k, (∀ l a, Contract Try.prog 10 [.one (.l (.s .ro pace l)), .one (.l (.v (.int .i64 a)))] ⟨F10 k l a, fun r => (.one (.v (.bool r)), [])⟩) ∧ F10 k l a = some true :=
  ⟨l.length + 1000, fun l a => F10_con _ l a, F10_true l hw.1 a⟩
theorem pure12 (l : List (den pace)) (hw : Wf (.sl pace) l) (_ : l.length * 24 ≤ 140737488351232) (a : Int) (_ : (Lit.int .i64 a).wf = true) (b : Int) (_ : (Lit.int .i64 b).wf = true) :
    ∃ k, (∀ l a b, Contract Try.prog 12 [.one (.l (.s .ro pace l)), .one (.l (.v (.int .i64 a))), .one (.l (.v (.int .i64 b)))] ⟨F12 k l a b, fun r => (.one (.v (.bool r)), [])⟩) ∧ F12 k l a b = some true :=
  ⟨l.length + 1000, fun l a b => F12_con _ l a b, F12_true l hw.1 a b⟩
end Go.Proofs.Ytkbaaipnjbcnlaa.Gn
end
