/-
  The functions that the law reaches, as plain Lean functions, and their contracts. (A part of the proofs of this seat.)
-/
import Derived.Test.YtkkgcidigiokfaaChecked
import Derived.Test.YtkkgcidigiokfaaRc
import Derived.KernelRfl

section
set_option linter.unusedVariables false
set_option linter.unusedSimpArgs false
/-
  The functions that the laws over segments and ends reach, as plain functions (printed by rfgen.py).
-/
namespace Go.Proofs.Ytkkgcidigiokfaa.Gn
open Go.Rf
abbrev rng : Ty := (.pair (.int .i64) (.int .i64))
abbrev erl : Ty := (.pair (.int .i64) (.int .u8))
abbrev clk : Ty := (.pair (.int .i64) rng)
abbrev ear : Ty := (.pair (.int .i64) (.pair (.int .i64) (.pair (.sl (.int .u8)) (.sl erl))))
abbrev mth : Ty := (.pair (.int .i64) (.pair (.sl (.int .u8)) (.pair (.int .i64) (.pair (.int .i64) (.sl rng)))))
abbrev seg : Ty := (.pair (.int .i64) (.pair (.int .i64) (.pair (.int .i64) (.pair (.int .i64) (.pair (.int .i64) (.pair .bool (.pair .bool (.pair .bool (.pair .bool (.pair (.sl rng) (.sl (.int .u8))))))))))))
abbrev fin : Ty := (.pair (.int .i64) (.pair (.int .i64) (.pair (.int .i64) (.pair (.int .i64) (.pair (.int .i64) (.pair (.int .i64) (.pair mth (.pair ear (.pair .bool (.pair .bool (.pair .bool (.pair (.int .i64) (.pair (.int .i64) (.pair (.int .i64) clk))))))))))))))
def tyT : List (Nat × TyI) := [(3, ⟨(.int .i64), false, 0⟩), (4, ⟨.bool, false, 0⟩), (5, ⟨(.int .u8), false, 0⟩), (22, ⟨(.sl rng), false, 16⟩), (23, ⟨(.sl (.int .u8)), false, 1⟩), (25, ⟨seg, true, 0⟩), (27, ⟨(.sl rng), false, 16⟩), (29, ⟨seg, true, 0⟩), (94, ⟨rng, true, 0⟩), (138, ⟨rng, true, 0⟩), (142, ⟨(.sl (.sl (.int .u8))), false, 24⟩)]
def fldT : FldT := [(25, [(0, 1, false), (1, 1, false), (2, 1, false), (3, 1, false), (4, 1, false), (5, 1, false), (6, 1, false), (7, 1, false), (8, 1, false), (9, 1, false), (10, 1, false)]), (29, [(0, 1, false), (1, 1, false), (2, 1, false), (3, 1, false), (4, 1, false), (5, 1, false), (6, 1, false), (7, 1, false), (8, 1, false), (9, 1, false), (10, 1, false)]), (94, [(0, 1, false), (1, 1, false)]), (138, [(0, 1, false), (1, 1, false)])]
def eqT : List Nat := [94]
def env (tab : Tab) (hint : Nat → Hint) (rm : Rf.Mode) (pins : List (Bool × Nat)) (k : Nat) : Env :=
  { tab := tab, lend := (fun f => cond (Nat.beq f 176) [true] (cond (Nat.beq f 168) [true] (cond (Nat.beq f 167) [true] (cond (Nat.beq f 164) [true] ([]))))), lent := (fun f => cond (Nat.beq f 92) [true] (cond (Nat.beq f 91) [true] (cond (Nat.beq f 25) [true] (cond (Nat.beq f 17) [true] (cond (Nat.beq f 151) [true] (cond (Nat.beq f 26) [true] (cond (Nat.beq f 43) [true] (cond (Nat.beq f 71) [true] ([]))))))))), pins := pins, ty := asc tyT, fld := fldOf fldT, pw := fun _ => none, cw := fun _ => [], hint := hint, eqt := hasK eqT, rm := rm, fuel := k }
theorem tyOk : AllT (TyOk Try.prog) tyT :=
  ⟨.ofInt (b := 8) (by kernel_rfl) (by kernel_rfl), .ofBool (b := 1) (by kernel_rfl) (by kernel_rfl), .ofInt (b := 1) (by kernel_rfl) (by kernel_rfl), .ofSl (te := 138) (b := 24) (by kernel_rfl) (by kernel_rfl) (by kernel_rfl) nofun, .ofSl (te := 5) (b := 24) (by kernel_rfl) (by kernel_rfl) (by kernel_rfl) (fun _ h => by cases h; kernel_rfl), .ofAgg (b := 96) (by kernel_rfl) (by kernel_rfl), .ofSl (te := 94) (b := 24) (by kernel_rfl) (by kernel_rfl) (by kernel_rfl) nofun, .ofAgg (b := 96) (by kernel_rfl) (by kernel_rfl), .ofAgg (b := 16) (by kernel_rfl) (by kernel_rfl), .ofAgg (b := 16) (by kernel_rfl) (by kernel_rfl), .ofSl (te := 23) (b := 24) (by kernel_rfl) (by kernel_rfl) (by kernel_rfl) nofun, trivial⟩
theorem fldOk : AllF Try.prog fldT :=
  ⟨⟨⟨by kernel_rfl, by kernel_rfl⟩, ⟨by kernel_rfl, by kernel_rfl⟩, ⟨by kernel_rfl, by kernel_rfl⟩, ⟨by kernel_rfl, by kernel_rfl⟩, ⟨by kernel_rfl, by kernel_rfl⟩, ⟨by kernel_rfl, by kernel_rfl⟩, ⟨by kernel_rfl, by kernel_rfl⟩, ⟨by kernel_rfl, by kernel_rfl⟩, ⟨by kernel_rfl, by kernel_rfl⟩, ⟨by kernel_rfl, by kernel_rfl⟩, ⟨by kernel_rfl, by kernel_rfl⟩, trivial⟩, ⟨⟨by kernel_rfl, by kernel_rfl⟩, ⟨by kernel_rfl, by kernel_rfl⟩, ⟨by kernel_rfl, by kernel_rfl⟩, ⟨by kernel_rfl, by kernel_rfl⟩, ⟨by kernel_rfl, by kernel_rfl⟩, ⟨by kernel_rfl, by kernel_rfl⟩, ⟨by kernel_rfl, by kernel_rfl⟩, ⟨by kernel_rfl, by kernel_rfl⟩, ⟨by kernel_rfl, by kernel_rfl⟩, ⟨by kernel_rfl, by kernel_rfl⟩, ⟨by kernel_rfl, by kernel_rfl⟩, trivial⟩, ⟨⟨by kernel_rfl, by kernel_rfl⟩, ⟨by kernel_rfl, by kernel_rfl⟩, trivial⟩, ⟨⟨by kernel_rfl, by kernel_rfl⟩, ⟨by kernel_rfl, by kernel_rfl⟩, trivial⟩, trivial⟩
theorem mixed : Try.prog.follows .mixedOrders = true := by kernel_rfl
theorem bldOk : AllT (fun t i => i.agg = true → BldOk Try.prog t (fldOf fldT t)) tyT :=
  ⟨nofun, nofun, nofun, nofun, nofun, fun _ => bld_of (row := [(0, 1, false), (1, 1, false), (2, 1, false), (3, 1, false), (4, 1, false), (5, 1, false), (6, 1, false), (7, 1, false), (8, 1, false), (9, 1, false), (10, 1, false)]) rfl (by kernel_rfl) (by kernel_rfl), nofun, fun _ => bld_of (row := [(0, 1, false), (1, 1, false), (2, 1, false), (3, 1, false), (4, 1, false), (5, 1, false), (6, 1, false), (7, 1, false), (8, 1, false), (9, 1, false), (10, 1, false)]) rfl (by kernel_rfl) (by kernel_rfl), fun _ => bld_of (row := [(0, 1, false), (1, 1, false)]) rfl (by kernel_rfl) (by kernel_rfl), fun _ => bld_of (row := [(0, 1, false), (1, 1, false)]) rfl (by kernel_rfl) (by kernel_rfl), nofun, trivial⟩
theorem eqOkT : AllT (fun t i => hasK eqT t = true → EqOk Try.prog t i.ty) tyT :=
  ⟨fun h => absurd h (by decide), fun h => absurd h (by decide), fun h => absurd h (by decide), fun h => absurd h (by decide), fun h => absurd h (by decide), fun h => absurd h (by decide), fun h => absurd h (by decide), fun h => absurd h (by decide), fun _ => EqOk.of (n := 8) (by decide) (by kernel_rfl) (by kernel_rfl) (by kernel_rfl) (by kernel_rfl) (by kernel_rfl), fun h => absurd h (by decide), fun h => absurd h (by decide), trivial⟩
theorem tysOk (tab : Tab) (hint : Nat → Hint) (rm : Rf.Mode) (pins : List (Bool × Nat)) (k : Nat) : TysOk Try.prog (env tab hint rm pins k) :=
  ⟨fun t i h => tyOk.get h, fun s f z h => fldOk.get h, fun t i h => bldOk.get h, fun t i h h2 => eqOkT.get h2 h⟩
theorem envOk {tab : Tab} (h : TabFn Try.prog tab) (hint : Nat → Hint) (rm : Rf.Mode) (pins : List (Bool × Nat)) (k : Nat) : EnvOk Try.prog (env tab hint rm pins k) := EnvOk.of (tysOk tab hint rm pins k) h
def noTab : Tab := fun _ _ => none
def noHint : Nat → Hint := fun _ => ⟨[], []⟩
/-! 57: loop.example/netstack/laws.szRangeS -/
abbrev F57_E (k : Nat) : Env := env noTab noHint .own [] k
abbrev F57_a (a0 : List (den rng)) (a1 : Int) : List Arg := [.one (.l (.s .ro rng a0)), .one (.l (.v (.int .i64 a1)))]
def F57_r (r : Int) : A × List (List Leaf) := (.one (.v (.int .i64 r)), [])
def F57_T {β : Type} (k : Nat) (a0 : List (den rng)) (a1 : Int) (RET : Int → Option β) : Option β := cond (decide ((IntKind.i64.wrap (a1 - ((a0.length : Nat) : Int))) < 0)) (RET (-1)) (RET (IntKind.i64.wrap (a1 - ((a0.length : Nat) : Int))))
def F57 (k : Nat) (a0 : List (den rng)) (a1 : Int) : Option (Int) := F57_T k a0 a1 some
theorem F57_st {β : Type} (k : Nat) (a0 : List (den rng)) (a1 : Int) (K : A × List (List Leaf) → Option β) : evalF (F57_E k) Try.f57 (F57_a a0 a1) K =
    F57_T k a0 a1 (fun r => K (F57_r r)) := by kernel_rfl
theorem F57_ev {β : Type} (k : Nat) (a0 : List (den rng)) (a1 : Int) (K : A × List (List Leaf) → Option β) : evalF (F57_E k) Try.f57 (F57_a a0 a1) K = (F57 k a0 a1).bind fun r => K (F57_r r) := by
  rw [F57_st, F57]
  simp only [F57_T, bind_cond, Option.bind_assoc, Option.bind_some, Option.bind_none, Option.bind_fun_some]
theorem F57_con (k : Nat) (a0 : List (den rng)) (a1 : Int) : Contract Try.prog 57 (F57_a a0 a1) ⟨F57 k a0 a1, F57_r⟩ := con_of (envOk .none _ _ _ _) mixed Try.func57 rfl rfl (F57_ev k a0 a1 some)
def F57_sh : List AK := [.one (.l (.sl .ro rng)), .one (.l (.int .i64))]
def F57_p (k : Nat) : List Arg → Option CR := cle F57_sh fun x => ⟨F57 k x.1 x.2.1, F57_r⟩
theorem F57_q (k : Nat) : ∀ xs cr, F57_p k xs = some cr → Contract Try.prog 57 xs cr := cle_ok fun x => F57_con k _ _
theorem F57_f : FnOk Try.prog 57 := .of (by kernel_rfl)
/-! 58: loop.example/netstack/laws.szByteS -/
abbrev F58_E (k : Nat) : Env := env noTab noHint .own [] k
abbrev F58_a (a0 : List (den (.int .u8))) (a1 : Int) : List Arg := [.one (.l (.s .ro (.int .u8) a0)), .one (.l (.v (.int .i64 a1)))]
def F58_r (r : Int) : A × List (List Leaf) := (.one (.v (.int .i64 r)), [])
def F58_T {β : Type} (k : Nat) (a0 : List (den (.int .u8))) (a1 : Int) (RET : Int → Option β) : Option β := cond (decide ((IntKind.i64.wrap (a1 - ((a0.length : Nat) : Int))) < 0)) (RET (-1)) (RET (IntKind.i64.wrap (a1 - ((a0.length : Nat) : Int))))
def F58 (k : Nat) (a0 : List (den (.int .u8))) (a1 : Int) : Option (Int) := F58_T k a0 a1 some
theorem F58_st {β : Type} (k : Nat) (a0 : List (den (.int .u8))) (a1 : Int) (K : A × List (List Leaf) → Option β) : evalF (F58_E k) Try.f58 (F58_a a0 a1) K =
    F58_T k a0 a1 (fun r => K (F58_r r)) := by kernel_rfl
theorem F58_ev {β : Type} (k : Nat) (a0 : List (den (.int .u8))) (a1 : Int) (K : A × List (List Leaf) → Option β) : evalF (F58_E k) Try.f58 (F58_a a0 a1) K = (F58 k a0 a1).bind fun r => K (F58_r r) := by
  rw [F58_st, F58]
  simp only [F58_T, bind_cond, Option.bind_assoc, Option.bind_some, Option.bind_none, Option.bind_fun_some]
theorem F58_con (k : Nat) (a0 : List (den (.int .u8))) (a1 : Int) : Contract Try.prog 58 (F58_a a0 a1) ⟨F58 k a0 a1, F58_r⟩ := con_of (envOk .none _ _ _ _) mixed Try.func58 rfl rfl (F58_ev k a0 a1 some)
def F58_sh : List AK := [.one (.l (.sl .ro (.int .u8))), .one (.l (.int .i64))]
def F58_p (k : Nat) : List Arg → Option CR := cle F58_sh fun x => ⟨F58 k x.1 x.2.1, F58_r⟩
theorem F58_q (k : Nat) : ∀ xs cr, F58_p k xs = some cr → Contract Try.prog 58 xs cr := cle_ok fun x => F58_con k _ _
theorem F58_f : FnOk Try.prog 58 := .of (by kernel_rfl)
/-! 12: loop.example/netstack/laws.szSegment -/
def F12_t (k : Nat) : Tab := entT 57 (F57_p k) <| entT 58 (F58_p k) <| noTab
abbrev F12_E (k : Nat) : Env := env (F12_t k) noHint .own [] k
abbrev F12_a (a0_0 a0_1 a0_2 a0_3 a0_4 : Int) (a0_5 a0_6 a0_7 a0_8 : Bool) (a0_9 : List (den rng)) (a0_10 : List (den (.int .u8))) (a1 : Int) : List Arg := [.agg [.l (.v (.int .i64 a0_0)), .l (.v (.int .i64 a0_1)), .l (.v (.int .i64 a0_2)), .l (.v (.int .i64 a0_3)), .l (.v (.int .i64 a0_4)), .l (.v (.bool a0_5)), .l (.v (.bool a0_6)), .l (.v (.bool a0_7)), .l (.v (.bool a0_8)), .l (.s .ro rng a0_9), .l (.s .ro (.int .u8) a0_10)], .one (.l (.v (.int .i64 a1)))]
def F12_r (r : Int) : A × List (List Leaf) := (.one (.v (.int .i64 r)), [])
def F12_T {β : Type} (k : Nat) (a0_0 a0_1 a0_2 a0_3 a0_4 : Int) (a0_5 a0_6 a0_7 a0_8 : Bool) (a0_9 : List (den rng)) (a0_10 : List (den (.int .u8))) (a1 : Int) (RET : Int → Option β) : Option β := (F57 k a0_9 a1).bind fun b1 => cond (decide (b1 < 0)) (RET (-1)) ((F58 k a0_10 b1).bind fun b2 => cond (decide (b2 < 0)) (RET (-1)) (RET b2))
def F12 (k : Nat) (a0_0 a0_1 a0_2 a0_3 a0_4 : Int) (a0_5 a0_6 a0_7 a0_8 : Bool) (a0_9 : List (den rng)) (a0_10 : List (den (.int .u8))) (a1 : Int) : Option (Int) := F12_T k a0_0 a0_1 a0_2 a0_3 a0_4 a0_5 a0_6 a0_7 a0_8 a0_9 a0_10 a1 some
theorem F12_st {β : Type} (k : Nat) (a0_0 a0_1 a0_2 a0_3 a0_4 : Int) (a0_5 a0_6 a0_7 a0_8 : Bool) (a0_9 : List (den rng)) (a0_10 : List (den (.int .u8))) (a1 : Int) (K : A × List (List Leaf) → Option β) : evalF (F12_E k) Try.f12 (F12_a a0_0 a0_1 a0_2 a0_3 a0_4 a0_5 a0_6 a0_7 a0_8 a0_9 a0_10 a1) K =
    F12_T k a0_0 a0_1 a0_2 a0_3 a0_4 a0_5 a0_6 a0_7 a0_8 a0_9 a0_10 a1 (fun r => K (F12_r r)) := by kernel_rfl
theorem F12_ev {β : Type} (k : Nat) (a0_0 a0_1 a0_2 a0_3 a0_4 : Int) (a0_5 a0_6 a0_7 a0_8 : Bool) (a0_9 : List (den rng)) (a0_10 : List (den (.int .u8))) (a1 : Int) (K : A × List (List Leaf) → Option β) : evalF (F12_E k) Try.f12 (F12_a a0_0 a0_1 a0_2 a0_3 a0_4 a0_5 a0_6 a0_7 a0_8 a0_9 a0_10 a1) K = (F12 k a0_0 a0_1 a0_2 a0_3 a0_4 a0_5 a0_6 a0_7 a0_8 a0_9 a0_10 a1).bind fun r => K (F12_r r) := by
  rw [F12_st, F12]
  simp only [F12_T, bind_cond, Option.bind_assoc, Option.bind_some, Option.bind_none, Option.bind_fun_some]
theorem F12_tOk (k : Nat) : TabFn Try.prog (F12_t k) := .ent (F57_q k) F57_f (.ent (F58_q k) F58_f (.none))
theorem F12_con (k : Nat) (a0_0 a0_1 a0_2 a0_3 a0_4 : Int) (a0_5 a0_6 a0_7 a0_8 : Bool) (a0_9 : List (den rng)) (a0_10 : List (den (.int .u8))) (a1 : Int) : Contract Try.prog 12 (F12_a a0_0 a0_1 a0_2 a0_3 a0_4 a0_5 a0_6 a0_7 a0_8 a0_9 a0_10 a1) ⟨F12 k a0_0 a0_1 a0_2 a0_3 a0_4 a0_5 a0_6 a0_7 a0_8 a0_9 a0_10 a1, F12_r⟩ := con_of (envOk (F12_tOk k) _ _ _ _) mixed Try.func12 rfl rfl (F12_ev k a0_0 a0_1 a0_2 a0_3 a0_4 a0_5 a0_6 a0_7 a0_8 a0_9 a0_10 a1 some)
def F12_sh : List AK := [.agg [.l (.int .i64), .l (.int .i64), .l (.int .i64), .l (.int .i64), .l (.int .i64), .l (.bool), .l (.bool), .l (.bool), .l (.bool), .l (.sl .ro rng), .l (.sl .ro (.int .u8))], .one (.l (.int .i64))]
def F12_p (k : Nat) : List Arg → Option CR := cle F12_sh fun x => ⟨F12 k x.1.1 x.1.2.1 x.1.2.2.1 x.1.2.2.2.1 x.1.2.2.2.2.1 x.1.2.2.2.2.2.1 x.1.2.2.2.2.2.2.1 x.1.2.2.2.2.2.2.2.1 x.1.2.2.2.2.2.2.2.2.1 x.1.2.2.2.2.2.2.2.2.2.1 x.1.2.2.2.2.2.2.2.2.2.2.1 x.2.1, F12_r⟩
theorem F12_q (k : Nat) : ∀ xs cr, F12_p k xs = some cr → Contract Try.prog 12 xs cr := cle_ok fun x => F12_con k _ _ _ _ _ _ _ _ _ _ _ _
theorem F12_f : FnOk Try.prog 12 := .of (by kernel_rfl)
/-! 133: loop.example/netstack/laws.toRange -/
abbrev F133_E (k : Nat) : Env := env noTab noHint .own [] k
abbrev F133_a (a0_0 a0_1 : Int) : List Arg := [.agg [.l (.v (.int .i64 a0_0)), .l (.v (.int .i64 a0_1))]]
def F133_r (r : Int × Int) : A × List (List Leaf) := (.agg [.v (.int .i64 r.1), .v (.int .i64 r.2)], [])
def F133 (k : Nat) (a0_0 a0_1 : Int) : Option (Int × Int) := some (a0_0, a0_1)
theorem F133_st {β : Type} (k : Nat) (a0_0 a0_1 : Int) (K : A × List (List Leaf) → Option β) : evalF (F133_E k) Try.f133 (F133_a a0_0 a0_1) K =
    K (.agg [.v (.int .i64 a0_0), .v (.int .i64 a0_1)], []) := by kernel_rfl
theorem F133_ev {β : Type} (k : Nat) (a0_0 a0_1 : Int) (K : A × List (List Leaf) → Option β) : evalF (F133_E k) Try.f133 (F133_a a0_0 a0_1) K = (F133 k a0_0 a0_1).bind fun r => K (F133_r r) := by
  rw [F133_st, F133]
  simp only [F133_r, bind_cond, Option.bind_assoc, Option.bind_some, Option.bind_none, Option.bind_fun_some]
theorem F133_con (k : Nat) (a0_0 a0_1 : Int) : Contract Try.prog 133 (F133_a a0_0 a0_1) ⟨F133 k a0_0 a0_1, F133_r⟩ := con_of (envOk .none _ _ _ _) mixed Try.func133 rfl rfl (F133_ev k a0_0 a0_1 some)
def F133_sh : List AK := [.agg [.l (.int .i64), .l (.int .i64)]]
def F133_p (k : Nat) : List Arg → Option CR := cle F133_sh fun x => ⟨F133 k x.1.1 x.1.2.1, F133_r⟩
theorem F133_q (k : Nat) : ∀ xs cr, F133_p k xs = some cr → Contract Try.prog 133 xs cr := cle_ok fun x => F133_con k _ _
theorem F133_f : FnOk Try.prog 133 := .of (by kernel_rfl)
/-! 64: loop.example/netstack/laws.toRangeS -/
def F64_h : Nat → Hint
  | 0 => ⟨[(0, .plain), (3, .plain), (4, .plain)], [(7000, .plain)]⟩
  | _ => ⟨[], []⟩
def F64_t (k : Nat) : Tab := entT 133 (F133_p k) <| noTab
abbrev F64_E (k : Nat) : Env := env (F64_t k) F64_h .own [] k
abbrev F64_a (a0 : List (den rng)) : List Arg := [.one (.l (.s .ro rng a0))]
def F64_r (r : List (den rng)) : A × List (List Leaf) := (.one (.s .own rng r), [])
def F64_s0 (a0 : List (den rng)) (x4_0 : Int) (m7000_0 : List (den rng)) : St := ⟨(.one (.s .ro rng a0)) :: (.one .d) :: (.one .d) :: (.one (.a (.cell 7000) 0 0 none)) :: (.one (.v (.int .i64 x4_0))) :: dz 18 [], [(7000, ⟨.s .own rng m7000_0, 0, 0⟩)]⟩
def F64_l0_T {β : Type} (k : Nat) (a0 : List (den rng)) (NX : Int → List (den rng) → Option β) (RET : List (den rng) → Option β) (x4_0 : Int) (m7000_0 : List (den rng)) : Option β := cond (decide (x4_0 < ((a0.length : Nat) : Int))) (cond (decide (0 ≤ x4_0)) (cond (decide (x4_0 < ((a0.length : Nat) : Int))) ((F133 k ((atI a0 x4_0).1) ((atI a0 x4_0).2)).bind fun b1 => cond (decide (0 ≤ x4_0)) (cond (decide (x4_0 < ((m7000_0.length : Nat) : Int))) (NX (IntKind.i64.wrap (x4_0 + 1)) (m7000_0.set x4_0.toNat b1)) none) none) none) none) (RET m7000_0)
def F64_l0 (k : Nat) (a0 : List (den rng)) : Nat → Int → List (den rng) → Option (List (den rng))
  | 0, _, _ => none
  | n + 1, x4_0, m7000_0 => F64_l0_T k a0 (fun x4_0 m7000_0 => F64_l0 k a0 n x4_0 m7000_0) some x4_0 m7000_0
theorem F64_l0_rd {β : Type} (k n : Nat) (a0 : List (den rng)) (x4_0 : Int) (m7000_0 : List (den rng)) (K : A × List (List Leaf) → Option β) :
    loopG (F64_E k) Try.f64 [1, 1, 0, 1, 0] 0 (kontAt (F64_E k) [1, 1, 0, 1, 0] (bodyOf Try.f64) 0 (endC (F64_E k) Try.f64 (F64_a a0) K)) (n + 1) (F64_s0 a0 x4_0 m7000_0) =
    F64_l0_T k a0 (fun x4_0 m7000_0 => loopG (F64_E k) Try.f64 [1, 1, 0, 1, 0] 0 (kontAt (F64_E k) [1, 1, 0, 1, 0] (bodyOf Try.f64) 0 (endC (F64_E k) Try.f64 (F64_a a0) K)) n (F64_s0 a0 x4_0 m7000_0)) (fun r => K (F64_r r)) x4_0 m7000_0 := by kernel_rfl
theorem F64_l0_lp {β : Type} (k : Nat) (a0 : List (den rng)) (K : A × List (List Leaf) → Option β) (n : Nat) : ∀ (x4_0 : Int) (m7000_0 : List (den rng)), loopG (F64_E k) Try.f64 [1, 1, 0, 1, 0] 0 (kontAt (F64_E k) [1, 1, 0, 1, 0] (bodyOf Try.f64) 0 (endC (F64_E k) Try.f64 (F64_a a0) K)) n (F64_s0 a0 x4_0 m7000_0) =
    (F64_l0 k a0 n x4_0 m7000_0).bind fun r => K (F64_r r) := by
  induction n with
  | zero => intros; rfl
  | succ n ih =>
    intros
    rw [F64_l0_rd, F64_l0]
    simp only [F64_l0_T, bind_cond, Option.bind_assoc, Option.bind_some, Option.bind_none, Option.bind_fun_some, ih]
def F64_T {β : Type} (k : Nat) (a0 : List (den rng)) (LP0 : Int → List (den rng) → Option β) : Option β := cond (decide (0 ≤ ((a0.length : Nat) : Int)) && decide (((a0.length : Nat) : Int) = ((a0.length : Nat) : Int)) && decide (((a0.length : Nat) : Int) * (16 : Nat) ≤ 140737488355328)) (LP0 0 (List.replicate (((a0.length : Nat) : Int).toNat) (dflt rng))) none
def F64 (k : Nat) (a0 : List (den rng)) : Option (List (den rng)) := F64_T k a0 (fun x4_0 m7000_0 => F64_l0 k a0 k x4_0 m7000_0)
theorem F64_st {β : Type} (k : Nat) (a0 : List (den rng)) (K : A × List (List Leaf) → Option β) : evalF (F64_E k) Try.f64 (F64_a a0) K =
    F64_T k a0 (fun x4_0 m7000_0 => loopG (F64_E k) Try.f64 [1, 1, 0, 1, 0] 0 (kontAt (F64_E k) [1, 1, 0, 1, 0] (bodyOf Try.f64) 0 (endC (F64_E k) Try.f64 (F64_a a0) K)) k (F64_s0 a0 x4_0 m7000_0)) := by kernel_rfl
theorem F64_ev {β : Type} (k : Nat) (a0 : List (den rng)) (K : A × List (List Leaf) → Option β) : evalF (F64_E k) Try.f64 (F64_a a0) K = (F64 k a0).bind fun r => K (F64_r r) := by
  rw [F64_st, F64]
  simp only [F64_T, bind_cond, Option.bind_assoc, Option.bind_some, Option.bind_none, Option.bind_fun_some, F64_l0_lp]
theorem F64_tOk (k : Nat) : TabFn Try.prog (F64_t k) := .ent (F133_q k) F133_f (.none)
theorem F64_con (k : Nat) (a0 : List (den rng)) : Contract Try.prog 64 (F64_a a0) ⟨F64 k a0, F64_r⟩ := con_of (envOk (F64_tOk k) _ _ _ _) mixed Try.func64 rfl rfl (F64_ev k a0 some)
def F64_sh : List AK := [.one (.l (.sl .ro rng))]
def F64_p (k : Nat) : List Arg → Option CR := cle F64_sh fun x => ⟨F64 k x.1, F64_r⟩
theorem F64_q (k : Nat) : ∀ xs cr, F64_p k xs = some cr → Contract Try.prog 64 xs cr := cle_ok fun x => F64_con k _
theorem F64_f : FnOk Try.prog 64 := .of (by kernel_rfl)
/-! 40: loop.example/netstack/laws.toByteS -/
def F40_h : Nat → Hint
  | 0 => ⟨[(0, .plain), (3, .plain), (4, .plain)], [(7000, .plain)]⟩
  | _ => ⟨[], []⟩
abbrev F40_E (k : Nat) : Env := env noTab F40_h .own [] k
abbrev F40_a (a0 : List (den (.int .u8))) : List Arg := [.one (.l (.s .ro (.int .u8) a0))]
def F40_r (r : List (den (.int .u8))) : A × List (List Leaf) := (.one (.s .own (.int .u8) r), [])
def F40_s0 (a0 : List (den (.int .u8))) (x4_0 : Int) (m7000_0 : List (den (.int .u8))) : St := ⟨(.one (.s .ro (.int .u8) a0)) :: (.one .d) :: (.one .d) :: (.one (.a (.cell 7000) 0 0 none)) :: (.one (.v (.int .i64 x4_0))) :: dz 17 [], [(7000, ⟨.s .own (.int .u8) m7000_0, 0, 0⟩)]⟩
def F40_l0_T {β : Type} (k : Nat) (a0 : List (den (.int .u8))) (NX : Int → List (den (.int .u8)) → Option β) (RET : List (den (.int .u8)) → Option β) (x4_0 : Int) (m7000_0 : List (den (.int .u8))) : Option β := cond (decide (x4_0 < ((a0.length : Nat) : Int))) (cond (decide (0 ≤ x4_0)) (cond (decide (x4_0 < ((a0.length : Nat) : Int))) (cond (decide (0 ≤ x4_0)) (cond (decide (x4_0 < ((m7000_0.length : Nat) : Int))) (NX (IntKind.i64.wrap (x4_0 + 1)) (m7000_0.set x4_0.toNat (atI a0 x4_0))) none) none) none) none) (RET m7000_0)
def F40_l0 (k : Nat) (a0 : List (den (.int .u8))) : Nat → Int → List (den (.int .u8)) → Option (List (den (.int .u8)))
  | 0, _, _ => none
  | n + 1, x4_0, m7000_0 => F40_l0_T k a0 (fun x4_0 m7000_0 => F40_l0 k a0 n x4_0 m7000_0) some x4_0 m7000_0
theorem F40_l0_rd {β : Type} (k n : Nat) (a0 : List (den (.int .u8))) (x4_0 : Int) (m7000_0 : List (den (.int .u8))) (K : A × List (List Leaf) → Option β) :
    loopG (F40_E k) Try.f40 [1, 1, 0, 1, 0] 0 (kontAt (F40_E k) [1, 1, 0, 1, 0] (bodyOf Try.f40) 0 (endC (F40_E k) Try.f40 (F40_a a0) K)) (n + 1) (F40_s0 a0 x4_0 m7000_0) =
    F40_l0_T k a0 (fun x4_0 m7000_0 => loopG (F40_E k) Try.f40 [1, 1, 0, 1, 0] 0 (kontAt (F40_E k) [1, 1, 0, 1, 0] (bodyOf Try.f40) 0 (endC (F40_E k) Try.f40 (F40_a a0) K)) n (F40_s0 a0 x4_0 m7000_0)) (fun r => K (F40_r r)) x4_0 m7000_0 := by kernel_rfl
theorem F40_l0_lp {β : Type} (k : Nat) (a0 : List (den (.int .u8))) (K : A × List (List Leaf) → Option β) (n : Nat) : ∀ (x4_0 : Int) (m7000_0 : List (den (.int .u8))), loopG (F40_E k) Try.f40 [1, 1, 0, 1, 0] 0 (kontAt (F40_E k) [1, 1, 0, 1, 0] (bodyOf Try.f40) 0 (endC (F40_E k) Try.f40 (F40_a a0) K)) n (F40_s0 a0 x4_0 m7000_0) =
    (F40_l0 k a0 n x4_0 m7000_0).bind fun r => K (F40_r r) := by
  induction n with
  | zero => intros; rfl
  | succ n ih =>
    intros
    rw [F40_l0_rd, F40_l0]
    simp only [F40_l0_T, bind_cond, Option.bind_assoc, Option.bind_some, Option.bind_none, Option.bind_fun_some, ih]
def F40_T {β : Type} (k : Nat) (a0 : List (den (.int .u8))) (LP0 : Int → List (den (.int .u8)) → Option β) : Option β := cond (decide (0 ≤ ((a0.length : Nat) : Int)) && decide (((a0.length : Nat) : Int) = ((a0.length : Nat) : Int)) && decide (((a0.length : Nat) : Int) * (1 : Nat) ≤ 140737488355328)) (LP0 0 (List.replicate (((a0.length : Nat) : Int).toNat) (dflt (.int .u8)))) none
def F40 (k : Nat) (a0 : List (den (.int .u8))) : Option (List (den (.int .u8))) := F40_T k a0 (fun x4_0 m7000_0 => F40_l0 k a0 k x4_0 m7000_0)
theorem F40_st {β : Type} (k : Nat) (a0 : List (den (.int .u8))) (K : A × List (List Leaf) → Option β) : evalF (F40_E k) Try.f40 (F40_a a0) K =
    F40_T k a0 (fun x4_0 m7000_0 => loopG (F40_E k) Try.f40 [1, 1, 0, 1, 0] 0 (kontAt (F40_E k) [1, 1, 0, 1, 0] (bodyOf Try.f40) 0 (endC (F40_E k) Try.f40 (F40_a a0) K)) k (F40_s0 a0 x4_0 m7000_0)) := by kernel_rfl
theorem F40_ev {β : Type} (k : Nat) (a0 : List (den (.int .u8))) (K : A × List (List Leaf) → Option β) : evalF (F40_E k) Try.f40 (F40_a a0) K = (F40 k a0).bind fun r => K (F40_r r) := by
  rw [F40_st, F40]
  simp only [F40_T, bind_cond, Option.bind_assoc, Option.bind_some, Option.bind_none, Option.bind_fun_some, F40_l0_lp]
theorem F40_con (k : Nat) (a0 : List (den (.int .u8))) : Contract Try.prog 40 (F40_a a0) ⟨F40 k a0, F40_r⟩ := con_of (envOk .none _ _ _ _) mixed Try.func40 rfl rfl (F40_ev k a0 some)
def F40_sh : List AK := [.one (.l (.sl .ro (.int .u8)))]
def F40_p (k : Nat) : List Arg → Option CR := cle F40_sh fun x => ⟨F40 k x.1, F40_r⟩
theorem F40_q (k : Nat) : ∀ xs cr, F40_p k xs = some cr → Contract Try.prog 40 xs cr := cle_ok fun x => F40_con k _
theorem F40_f : FnOk Try.prog 40 := .of (by kernel_rfl)
/-! 14: loop.example/netstack/laws.toSegment -/
def F14_t (k : Nat) : Tab := entT 64 (F64_p k) <| entT 40 (F40_p k) <| noTab
abbrev F14_E (k : Nat) : Env := env (F14_t k) noHint .own [] k
abbrev F14_a (a0_0 a0_1 a0_2 a0_3 a0_4 : Int) (a0_5 a0_6 a0_7 a0_8 : Bool) (a0_9 : List (den rng)) (a0_10 : List (den (.int .u8))) : List Arg := [.agg [.l (.v (.int .i64 a0_0)), .l (.v (.int .i64 a0_1)), .l (.v (.int .i64 a0_2)), .l (.v (.int .i64 a0_3)), .l (.v (.int .i64 a0_4)), .l (.v (.bool a0_5)), .l (.v (.bool a0_6)), .l (.v (.bool a0_7)), .l (.v (.bool a0_8)), .l (.s .ro rng a0_9), .l (.s .ro (.int .u8) a0_10)]]
def F14_r (r : Int × Int × Int × Int × Int × Bool × Bool × Bool × Bool × List (den rng) × List (den (.int .u8))) : A × List (List Leaf) := (.agg [.v (.int .i64 r.1), .v (.int .i64 r.2.1), .v (.int .i64 r.2.2.1), .v (.int .i64 r.2.2.2.1), .v (.int .i64 r.2.2.2.2.1), .v (.bool r.2.2.2.2.2.1), .v (.bool r.2.2.2.2.2.2.1), .v (.bool r.2.2.2.2.2.2.2.1), .v (.bool r.2.2.2.2.2.2.2.2.1), .s .own rng r.2.2.2.2.2.2.2.2.2.1, .s .own (.int .u8) r.2.2.2.2.2.2.2.2.2.2], [])
def F14_T {β : Type} (k : Nat) (a0_0 a0_1 a0_2 a0_3 a0_4 : Int) (a0_5 a0_6 a0_7 a0_8 : Bool) (a0_9 : List (den rng)) (a0_10 : List (den (.int .u8))) (RET : (Int × Int × Int × Int × Int × Bool × Bool × Bool × Bool × List (den rng) × List (den (.int .u8))) → Option β) : Option β := (F64 k a0_9).bind fun b1 => (F40 k a0_10).bind fun b2 => RET (a0_0, a0_1, a0_2, a0_3, a0_4, a0_5, a0_6, a0_7, a0_8, b1, b2)
def F14 (k : Nat) (a0_0 a0_1 a0_2 a0_3 a0_4 : Int) (a0_5 a0_6 a0_7 a0_8 : Bool) (a0_9 : List (den rng)) (a0_10 : List (den (.int .u8))) : Option (Int × Int × Int × Int × Int × Bool × Bool × Bool × Bool × List (den rng) × List (den (.int .u8))) := F14_T k a0_0 a0_1 a0_2 a0_3 a0_4 a0_5 a0_6 a0_7 a0_8 a0_9 a0_10 some
theorem F14_st {β : Type} (k : Nat) (a0_0 a0_1 a0_2 a0_3 a0_4 : Int) (a0_5 a0_6 a0_7 a0_8 : Bool) (a0_9 : List (den rng)) (a0_10 : List (den (.int .u8))) (K : A × List (List Leaf) → Option β) : evalF (F14_E k) Try.f14 (F14_a a0_0 a0_1 a0_2 a0_3 a0_4 a0_5 a0_6 a0_7 a0_8 a0_9 a0_10) K =
    F14_T k a0_0 a0_1 a0_2 a0_3 a0_4 a0_5 a0_6 a0_7 a0_8 a0_9 a0_10 (fun r => K (F14_r r)) := by kernel_rfl
theorem F14_ev {β : Type} (k : Nat) (a0_0 a0_1 a0_2 a0_3 a0_4 : Int) (a0_5 a0_6 a0_7 a0_8 : Bool) (a0_9 : List (den rng)) (a0_10 : List (den (.int .u8))) (K : A × List (List Leaf) → Option β) : evalF (F14_E k) Try.f14 (F14_a a0_0 a0_1 a0_2 a0_3 a0_4 a0_5 a0_6 a0_7 a0_8 a0_9 a0_10) K = (F14 k a0_0 a0_1 a0_2 a0_3 a0_4 a0_5 a0_6 a0_7 a0_8 a0_9 a0_10).bind fun r => K (F14_r r) := by
  rw [F14_st, F14]
  simp only [F14_T, bind_cond, Option.bind_assoc, Option.bind_some, Option.bind_none, Option.bind_fun_some]
theorem F14_tOk (k : Nat) : TabFn Try.prog (F14_t k) := .ent (F64_q k) F64_f (.ent (F40_q k) F40_f (.none))
theorem F14_con (k : Nat) (a0_0 a0_1 a0_2 a0_3 a0_4 : Int) (a0_5 a0_6 a0_7 a0_8 : Bool) (a0_9 : List (den rng)) (a0_10 : List (den (.int .u8))) : Contract Try.prog 14 (F14_a a0_0 a0_1 a0_2 a0_3 a0_4 a0_5 a0_6 a0_7 a0_8 a0_9 a0_10) ⟨F14 k a0_0 a0_1 a0_2 a0_3 a0_4 a0_5 a0_6 a0_7 a0_8 a0_9 a0_10, F14_r⟩ := con_of (envOk (F14_tOk k) _ _ _ _) mixed Try.func14 rfl rfl (F14_ev k a0_0 a0_1 a0_2 a0_3 a0_4 a0_5 a0_6 a0_7 a0_8 a0_9 a0_10 some)
def F14_sh : List AK := [.agg [.l (.int .i64), .l (.int .i64), .l (.int .i64), .l (.int .i64), .l (.int .i64), .l (.bool), .l (.bool), .l (.bool), .l (.bool), .l (.sl .ro rng), .l (.sl .ro (.int .u8))]]
def F14_p (k : Nat) : List Arg → Option CR := cle F14_sh fun x => ⟨F14 k x.1.1 x.1.2.1 x.1.2.2.1 x.1.2.2.2.1 x.1.2.2.2.2.1 x.1.2.2.2.2.2.1 x.1.2.2.2.2.2.2.1 x.1.2.2.2.2.2.2.2.1 x.1.2.2.2.2.2.2.2.2.1 x.1.2.2.2.2.2.2.2.2.2.1 x.1.2.2.2.2.2.2.2.2.2.2.1, F14_r⟩
theorem F14_q (k : Nat) : ∀ xs cr, F14_p k xs = some cr → Contract Try.prog 14 xs cr := cle_ok fun x => F14_con k _ _ _ _ _ _ _ _ _ _ _
theorem F14_f : FnOk Try.prog 14 := .of (by kernel_rfl)
/-! 77: loop.example/netstack/spec.l1In -/
abbrev F77_E (k : Nat) : Env := env noTab noHint .own [] k
abbrev F77_a (a0 a1 a2 : Int) : List Arg := [.one (.l (.v (.int .i64 a0))), .one (.l (.v (.int .i64 a1))), .one (.l (.v (.int .i64 a2)))]
def F77_r (r : Bool) : A × List (List Leaf) := (.one (.v (.bool r)), [])
def F77 (k : Nat) (a0 a1 a2 : Int) : Option (Bool) := cond (decide (a0 ≥ a1)) (some (decide (a0 ≤ a2))) (some false)
theorem F77_st {β : Type} (k : Nat) (a0 a1 a2 : Int) (K : A × List (List Leaf) → Option β) : evalF (F77_E k) Try.f77 (F77_a a0 a1 a2) K =
    cond (decide (a0 ≥ a1)) (K (.one (.v (.bool (decide (a0 ≤ a2)))), [])) (K (.one (.v (.bool false)), [])) := by kernel_rfl
theorem F77_ev {β : Type} (k : Nat) (a0 a1 a2 : Int) (K : A × List (List Leaf) → Option β) : evalF (F77_E k) Try.f77 (F77_a a0 a1 a2) K = (F77 k a0 a1 a2).bind fun r => K (F77_r r) := by
  rw [F77_st, F77]
  simp only [F77_r, bind_cond, Option.bind_assoc, Option.bind_some, Option.bind_none, Option.bind_fun_some]
theorem F77_con (k : Nat) (a0 a1 a2 : Int) : Contract Try.prog 77 (F77_a a0 a1 a2) ⟨F77 k a0 a1 a2, F77_r⟩ := con_of (envOk .none _ _ _ _) mixed Try.func77 rfl rfl (F77_ev k a0 a1 a2 some)
def F77_sh : List AK := [.one (.l (.int .i64)), .one (.l (.int .i64)), .one (.l (.int .i64))]
def F77_p (k : Nat) : List Arg → Option CR := cle F77_sh fun x => ⟨F77 k x.1 x.2.1 x.2.2.1, F77_r⟩
theorem F77_q (k : Nat) : ∀ xs cr, F77_p k xs = some cr → Contract Try.prog 77 xs cr := cle_ok fun x => F77_con k _ _ _
theorem F77_f : FnOk Try.prog 77 := .of (by kernel_rfl)
/-! 59: loop.example/netstack/spec.SegmentOk -/
def F59_h : Nat → Hint
  | 0 => ⟨[(1, .plain), (3, .plain)], [(1000, .plain), (1001, .plain), (1002, .plain), (1003, .plain), (1004, .plain), (1005, .plain), (1006, .plain), (1007, .plain), (1008, .plain), (1009, .plain), (1010, .plain)]⟩
  | _ => ⟨[], []⟩
def F59_t (k : Nat) : Tab := entT 77 (F77_p k) <| noTab
abbrev F59_E (k : Nat) : Env := env (F59_t k) F59_h .own [] k
abbrev F59_a (a0_0 a0_1 a0_2 a0_3 a0_4 : Int) (a0_5 a0_6 a0_7 a0_8 : Bool) (a0_9 : List (den rng)) (a0_10 : List (den (.int .u8))) : List Arg := [.agg [.l (.v (.int .i64 a0_0)), .l (.v (.int .i64 a0_1)), .l (.v (.int .i64 a0_2)), .l (.v (.int .i64 a0_3)), .l (.v (.int .i64 a0_4)), .l (.v (.bool a0_5)), .l (.v (.bool a0_6)), .l (.v (.bool a0_7)), .l (.v (.bool a0_8)), .l (.s .ro rng a0_9), .l (.s .ro (.int .u8) a0_10)]]
def F59_r (r : Bool) : A × List (List Leaf) := (.one (.v (.bool r)), [])
def F59_s0 (a0_0 a0_1 a0_2 a0_3 a0_4 : Int) (a0_5 a0_6 a0_7 a0_8 : Bool) (a0_9 : List (den rng)) (a0_10 : List (den (.int .u8))) (x3_0 : Int) : St := ⟨(.one .d) :: (.one (.ptr (.cell 1000) 11 0)) :: (.one .d) :: (.one (.v (.int .i64 x3_0))) :: dz 103 [], [(1000, ⟨.v (.int .i64 a0_0), 0, 0⟩), (1001, ⟨.v (.int .i64 a0_1), 0, 0⟩), (1002, ⟨.v (.int .i64 a0_2), 0, 0⟩), (1003, ⟨.v (.int .i64 a0_3), 0, 0⟩), (1004, ⟨.v (.int .i64 a0_4), 0, 0⟩), (1005, ⟨.v (.bool a0_5), 0, 0⟩), (1006, ⟨.v (.bool a0_6), 0, 0⟩), (1007, ⟨.v (.bool a0_7), 0, 0⟩), (1008, ⟨.v (.bool a0_8), 0, 0⟩), (1009, ⟨.s .ro rng a0_9, 0, 0⟩), (1010, ⟨.s .ro (.int .u8) a0_10, 0, 0⟩)]⟩
def F59_l0_T {β : Type} (k : Nat) (a0_0 a0_1 a0_2 a0_3 a0_4 : Int) (a0_5 a0_6 a0_7 a0_8 : Bool) (a0_9 : List (den rng)) (a0_10 : List (den (.int .u8))) (NX : Int → Option β) (RET : Bool → Option β) (x3_0 : Int) : Option β := cond (decide (x3_0 < ((a0_9.length : Nat) : Int))) (cond (decide (0 ≤ x3_0)) (cond (decide (x3_0 < ((a0_9.length : Nat) : Int))) ((F77 k ((atI a0_9 x3_0).1) 0 65535).bind fun b6 => cond (!b6) (RET false) (cond (decide (0 ≤ x3_0)) (cond (decide (x3_0 < ((a0_9.length : Nat) : Int))) ((F77 k ((atI a0_9 x3_0).2) 0 65535).bind fun b7 => cond (!b7) (RET false) (NX (IntKind.i64.wrap (x3_0 + 1)))) none) none)) none) none) (cond (!a0_6) (cond (a0_3 != 0) (RET false) (cond (a0_4 != 0) (RET false) (cond (decide (((a0_9.length : Nat) : Int) > 0)) (RET false) (cond (!a0_8) (RET true) (cond (!a0_5) (cond (!a0_7) (RET (((a0_10.length : Nat) : Int) == 0)) (RET false)) (RET false)))))) (cond (!a0_8) (RET true) (cond (!a0_5) (cond (!a0_7) (RET (((a0_10.length : Nat) : Int) == 0)) (RET false)) (RET false))))
def F59_l0 (k : Nat) (a0_0 a0_1 a0_2 a0_3 a0_4 : Int) (a0_5 a0_6 a0_7 a0_8 : Bool) (a0_9 : List (den rng)) (a0_10 : List (den (.int .u8))) : Nat → Int → Option (Bool)
  | 0, _ => none
  | n + 1, x3_0 => F59_l0_T k a0_0 a0_1 a0_2 a0_3 a0_4 a0_5 a0_6 a0_7 a0_8 a0_9 a0_10 (fun x3_0 => F59_l0 k a0_0 a0_1 a0_2 a0_3 a0_4 a0_5 a0_6 a0_7 a0_8 a0_9 a0_10 n x3_0) some x3_0
theorem F59_l0_rd {β : Type} (k n : Nat) (a0_0 a0_1 a0_2 a0_3 a0_4 : Int) (a0_5 a0_6 a0_7 a0_8 : Bool) (a0_9 : List (den rng)) (a0_10 : List (den (.int .u8))) (x3_0 : Int) (K : A × List (List Leaf) → Option β) :
    loopG (F59_E k) Try.f59 [1, 1, 0, 1, 0] 0 (kontAt (F59_E k) [1, 1, 0, 1, 0] (bodyOf Try.f59) 0 (endC (F59_E k) Try.f59 (F59_a a0_0 a0_1 a0_2 a0_3 a0_4 a0_5 a0_6 a0_7 a0_8 a0_9 a0_10) K)) (n + 1) (F59_s0 a0_0 a0_1 a0_2 a0_3 a0_4 a0_5 a0_6 a0_7 a0_8 a0_9 a0_10 x3_0) =
    F59_l0_T k a0_0 a0_1 a0_2 a0_3 a0_4 a0_5 a0_6 a0_7 a0_8 a0_9 a0_10 (fun x3_0 => loopG (F59_E k) Try.f59 [1, 1, 0, 1, 0] 0 (kontAt (F59_E k) [1, 1, 0, 1, 0] (bodyOf Try.f59) 0 (endC (F59_E k) Try.f59 (F59_a a0_0 a0_1 a0_2 a0_3 a0_4 a0_5 a0_6 a0_7 a0_8 a0_9 a0_10) K)) n (F59_s0 a0_0 a0_1 a0_2 a0_3 a0_4 a0_5 a0_6 a0_7 a0_8 a0_9 a0_10 x3_0)) (fun r => K (F59_r r)) x3_0 := by kernel_rfl
theorem F59_l0_lp {β : Type} (k : Nat) (a0_0 a0_1 a0_2 a0_3 a0_4 : Int) (a0_5 a0_6 a0_7 a0_8 : Bool) (a0_9 : List (den rng)) (a0_10 : List (den (.int .u8))) (K : A × List (List Leaf) → Option β) (n : Nat) : ∀ (x3_0 : Int), loopG (F59_E k) Try.f59 [1, 1, 0, 1, 0] 0 (kontAt (F59_E k) [1, 1, 0, 1, 0] (bodyOf Try.f59) 0 (endC (F59_E k) Try.f59 (F59_a a0_0 a0_1 a0_2 a0_3 a0_4 a0_5 a0_6 a0_7 a0_8 a0_9 a0_10) K)) n (F59_s0 a0_0 a0_1 a0_2 a0_3 a0_4 a0_5 a0_6 a0_7 a0_8 a0_9 a0_10 x3_0) =
    (F59_l0 k a0_0 a0_1 a0_2 a0_3 a0_4 a0_5 a0_6 a0_7 a0_8 a0_9 a0_10 n x3_0).bind fun r => K (F59_r r) := by
  induction n with
  | zero => intros; rfl
  | succ n ih =>
    intros
    rw [F59_l0_rd, F59_l0]
    simp only [F59_l0_T, bind_cond, Option.bind_assoc, Option.bind_some, Option.bind_none, Option.bind_fun_some, ih]
def F59_T {β : Type} (k : Nat) (a0_0 a0_1 a0_2 a0_3 a0_4 : Int) (a0_5 a0_6 a0_7 a0_8 : Bool) (a0_9 : List (den rng)) (a0_10 : List (den (.int .u8))) (LP0 : Int → Option β) (RET : Bool → Option β) : Option β := (F77 k a0_0 1 255).bind fun b1 => cond (!b1) (RET false) ((F77 k a0_1 1 255).bind fun b2 => cond (!b2) (RET false) ((F77 k a0_2 0 65535).bind fun b3 => cond (!b3) (RET false) ((F77 k a0_3 0 65535).bind fun b4 => cond (!b4) (RET false) ((F77 k a0_4 0 255).bind fun b5 => cond (!b5) (RET false) (cond (decide (((a0_9.length : Nat) : Int) > 2)) (RET false) (cond (decide (((a0_10.length : Nat) : Int) > 12)) (RET false) (LP0 0)))))))
def F59 (k : Nat) (a0_0 a0_1 a0_2 a0_3 a0_4 : Int) (a0_5 a0_6 a0_7 a0_8 : Bool) (a0_9 : List (den rng)) (a0_10 : List (den (.int .u8))) : Option (Bool) := F59_T k a0_0 a0_1 a0_2 a0_3 a0_4 a0_5 a0_6 a0_7 a0_8 a0_9 a0_10 (fun x3_0 => F59_l0 k a0_0 a0_1 a0_2 a0_3 a0_4 a0_5 a0_6 a0_7 a0_8 a0_9 a0_10 k x3_0) some
theorem F59_st {β : Type} (k : Nat) (a0_0 a0_1 a0_2 a0_3 a0_4 : Int) (a0_5 a0_6 a0_7 a0_8 : Bool) (a0_9 : List (den rng)) (a0_10 : List (den (.int .u8))) (K : A × List (List Leaf) → Option β) : evalF (F59_E k) Try.f59 (F59_a a0_0 a0_1 a0_2 a0_3 a0_4 a0_5 a0_6 a0_7 a0_8 a0_9 a0_10) K =
    F59_T k a0_0 a0_1 a0_2 a0_3 a0_4 a0_5 a0_6 a0_7 a0_8 a0_9 a0_10 (fun x3_0 => loopG (F59_E k) Try.f59 [1, 1, 0, 1, 0] 0 (kontAt (F59_E k) [1, 1, 0, 1, 0] (bodyOf Try.f59) 0 (endC (F59_E k) Try.f59 (F59_a a0_0 a0_1 a0_2 a0_3 a0_4 a0_5 a0_6 a0_7 a0_8 a0_9 a0_10) K)) k (F59_s0 a0_0 a0_1 a0_2 a0_3 a0_4 a0_5 a0_6 a0_7 a0_8 a0_9 a0_10 x3_0)) (fun r => K (F59_r r)) := by kernel_rfl
theorem F59_ev {β : Type} (k : Nat) (a0_0 a0_1 a0_2 a0_3 a0_4 : Int) (a0_5 a0_6 a0_7 a0_8 : Bool) (a0_9 : List (den rng)) (a0_10 : List (den (.int .u8))) (K : A × List (List Leaf) → Option β) : evalF (F59_E k) Try.f59 (F59_a a0_0 a0_1 a0_2 a0_3 a0_4 a0_5 a0_6 a0_7 a0_8 a0_9 a0_10) K = (F59 k a0_0 a0_1 a0_2 a0_3 a0_4 a0_5 a0_6 a0_7 a0_8 a0_9 a0_10).bind fun r => K (F59_r r) := by
  rw [F59_st, F59]
  simp only [F59_T, bind_cond, Option.bind_assoc, Option.bind_some, Option.bind_none, Option.bind_fun_some, F59_l0_lp]
theorem F59_tOk (k : Nat) : TabFn Try.prog (F59_t k) := .ent (F77_q k) F77_f (.none)
theorem F59_con (k : Nat) (a0_0 a0_1 a0_2 a0_3 a0_4 : Int) (a0_5 a0_6 a0_7 a0_8 : Bool) (a0_9 : List (den rng)) (a0_10 : List (den (.int .u8))) : Contract Try.prog 59 (F59_a a0_0 a0_1 a0_2 a0_3 a0_4 a0_5 a0_6 a0_7 a0_8 a0_9 a0_10) ⟨F59 k a0_0 a0_1 a0_2 a0_3 a0_4 a0_5 a0_6 a0_7 a0_8 a0_9 a0_10, F59_r⟩ := con_of (envOk (F59_tOk k) _ _ _ _) mixed Try.func59 rfl rfl (F59_ev k a0_0 a0_1 a0_2 a0_3 a0_4 a0_5 a0_6 a0_7 a0_8 a0_9 a0_10 some)
def F59_sh : List AK := [.agg [.l (.int .i64), .l (.int .i64), .l (.int .i64), .l (.int .i64), .l (.int .i64), .l (.bool), .l (.bool), .l (.bool), .l (.bool), .l (.sl .ro rng), .l (.sl .ro (.int .u8))]]
def F59_p (k : Nat) : List Arg → Option CR := cle F59_sh fun x => ⟨F59 k x.1.1 x.1.2.1 x.1.2.2.1 x.1.2.2.2.1 x.1.2.2.2.2.1 x.1.2.2.2.2.2.1 x.1.2.2.2.2.2.2.1 x.1.2.2.2.2.2.2.2.1 x.1.2.2.2.2.2.2.2.2.1 x.1.2.2.2.2.2.2.2.2.2.1 x.1.2.2.2.2.2.2.2.2.2.2.1, F59_r⟩
theorem F59_q (k : Nat) : ∀ xs cr, F59_p k xs = some cr → Contract Try.prog 59 xs cr := cle_ok fun x => F59_con k _ _ _ _ _ _ _ _ _ _ _
theorem F59_f : FnOk Try.prog 59 := .of (by kernel_rfl)
/-! 60: loop.example/netstack/spec.l21Same -/
def F60_h : Nat → Hint
  | 0 => ⟨[(2, .plain), (3, .plain), (5, .plain)], [(2000, .plain), (2001, .plain), (2002, .plain), (2003, .plain), (2004, .plain), (2005, .plain), (2006, .plain), (2007, .plain), (2008, .plain), (2009, .plain), (2010, .plain), (3000, .plain), (3001, .plain), (3002, .plain), (3003, .plain), (3004, .plain), (3005, .plain), (3006, .plain), (3007, .plain), (3008, .plain), (3009, .plain), (3010, .plain)]⟩
  | _ => ⟨[], []⟩
abbrev F60_E (k : Nat) : Env := env noTab F60_h .own [] k
abbrev F60_a (a0_0 a0_1 a0_2 a0_3 a0_4 : Int) (a0_5 a0_6 a0_7 a0_8 : Bool) (a0_9 : List (den rng)) (a0_10 : List (den (.int .u8))) (a1_0 a1_1 a1_2 a1_3 a1_4 : Int) (a1_5 a1_6 a1_7 a1_8 : Bool) (a1_9 : List (den rng)) (a1_10 : List (den (.int .u8))) : List Arg := [.agg [.l (.v (.int .i64 a0_0)), .l (.v (.int .i64 a0_1)), .l (.v (.int .i64 a0_2)), .l (.v (.int .i64 a0_3)), .l (.v (.int .i64 a0_4)), .l (.v (.bool a0_5)), .l (.v (.bool a0_6)), .l (.v (.bool a0_7)), .l (.v (.bool a0_8)), .l (.s .ro rng a0_9), .l (.s .ro (.int .u8) a0_10)], .agg [.l (.v (.int .i64 a1_0)), .l (.v (.int .i64 a1_1)), .l (.v (.int .i64 a1_2)), .l (.v (.int .i64 a1_3)), .l (.v (.int .i64 a1_4)), .l (.v (.bool a1_5)), .l (.v (.bool a1_6)), .l (.v (.bool a1_7)), .l (.v (.bool a1_8)), .l (.s .ro rng a1_9), .l (.s .ro (.int .u8) a1_10)]]
def F60_r (r : Bool) : A × List (List Leaf) := (.one (.v (.bool r)), [])
def F60_s0 (a0_0 a0_1 a0_2 a0_3 a0_4 : Int) (a0_5 a0_6 a0_7 a0_8 : Bool) (a0_9 : List (den rng)) (a0_10 : List (den (.int .u8))) (a1_0 a1_1 a1_2 a1_3 a1_4 : Int) (a1_5 a1_6 a1_7 a1_8 : Bool) (a1_9 : List (den rng)) (a1_10 : List (den (.int .u8))) (x5_0 : Int) : St := ⟨(.one .d) :: (.one .d) :: (.one (.ptr (.cell 2000) 11 0)) :: (.one (.ptr (.cell 3000) 11 0)) :: (.one .d) :: (.one (.v (.int .i64 x5_0))) :: dz 60 [], [(2000, ⟨.v (.int .i64 a0_0), 0, 0⟩), (2001, ⟨.v (.int .i64 a0_1), 0, 0⟩), (2002, ⟨.v (.int .i64 a0_2), 0, 0⟩), (2003, ⟨.v (.int .i64 a0_3), 0, 0⟩), (2004, ⟨.v (.int .i64 a0_4), 0, 0⟩), (2005, ⟨.v (.bool a0_5), 0, 0⟩), (2006, ⟨.v (.bool a0_6), 0, 0⟩), (2007, ⟨.v (.bool a0_7), 0, 0⟩), (2008, ⟨.v (.bool a0_8), 0, 0⟩), (2009, ⟨.s .ro rng a0_9, 0, 0⟩), (2010, ⟨.s .ro (.int .u8) a0_10, 0, 0⟩), (3000, ⟨.v (.int .i64 a1_0), 0, 0⟩), (3001, ⟨.v (.int .i64 a1_1), 0, 0⟩), (3002, ⟨.v (.int .i64 a1_2), 0, 0⟩), (3003, ⟨.v (.int .i64 a1_3), 0, 0⟩), (3004, ⟨.v (.int .i64 a1_4), 0, 0⟩), (3005, ⟨.v (.bool a1_5), 0, 0⟩), (3006, ⟨.v (.bool a1_6), 0, 0⟩), (3007, ⟨.v (.bool a1_7), 0, 0⟩), (3008, ⟨.v (.bool a1_8), 0, 0⟩), (3009, ⟨.s .ro rng a1_9, 0, 0⟩), (3010, ⟨.s .ro (.int .u8) a1_10, 0, 0⟩)]⟩
def F60_l0_T {β : Type} (k : Nat) (a0_0 a0_1 a0_2 a0_3 a0_4 : Int) (a0_5 a0_6 a0_7 a0_8 : Bool) (a0_9 : List (den rng)) (a0_10 : List (den (.int .u8))) (a1_0 a1_1 a1_2 a1_3 a1_4 : Int) (a1_5 a1_6 a1_7 a1_8 : Bool) (a1_9 : List (den rng)) (a1_10 : List (den (.int .u8))) (NX : Int → Option β) (RET : Bool → Option β) (x5_0 : Int) : Option β := cond (decide (x5_0 < ((a0_9.length : Nat) : Int))) (cond (decide (0 ≤ x5_0)) (cond (decide (x5_0 < ((a0_9.length : Nat) : Int))) (cond (decide (0 ≤ x5_0)) (cond (decide (x5_0 < ((a1_9.length : Nat) : Int))) (cond (!(eqD rng (atI a0_9 x5_0) (atI a1_9 x5_0))) (RET false) (NX (IntKind.i64.wrap (x5_0 + 1)))) none) none) none) none) (RET true)
def F60_l0 (k : Nat) (a0_0 a0_1 a0_2 a0_3 a0_4 : Int) (a0_5 a0_6 a0_7 a0_8 : Bool) (a0_9 : List (den rng)) (a0_10 : List (den (.int .u8))) (a1_0 a1_1 a1_2 a1_3 a1_4 : Int) (a1_5 a1_6 a1_7 a1_8 : Bool) (a1_9 : List (den rng)) (a1_10 : List (den (.int .u8))) : Nat → Int → Option (Bool)
  | 0, _ => none
  | n + 1, x5_0 => F60_l0_T k a0_0 a0_1 a0_2 a0_3 a0_4 a0_5 a0_6 a0_7 a0_8 a0_9 a0_10 a1_0 a1_1 a1_2 a1_3 a1_4 a1_5 a1_6 a1_7 a1_8 a1_9 a1_10 (fun x5_0 => F60_l0 k a0_0 a0_1 a0_2 a0_3 a0_4 a0_5 a0_6 a0_7 a0_8 a0_9 a0_10 a1_0 a1_1 a1_2 a1_3 a1_4 a1_5 a1_6 a1_7 a1_8 a1_9 a1_10 n x5_0) some x5_0
theorem F60_l0_rd {β : Type} (k n : Nat) (a0_0 a0_1 a0_2 a0_3 a0_4 : Int) (a0_5 a0_6 a0_7 a0_8 : Bool) (a0_9 : List (den rng)) (a0_10 : List (den (.int .u8))) (a1_0 a1_1 a1_2 a1_3 a1_4 : Int) (a1_5 a1_6 a1_7 a1_8 : Bool) (a1_9 : List (den rng)) (a1_10 : List (den (.int .u8))) (x5_0 : Int) (K : A × List (List Leaf) → Option β) :
    loopG (F60_E k) Try.f60 [1, 1, 0, 1, 0] 0 (kontAt (F60_E k) [1, 1, 0, 1, 0] (bodyOf Try.f60) 0 (endC (F60_E k) Try.f60 (F60_a a0_0 a0_1 a0_2 a0_3 a0_4 a0_5 a0_6 a0_7 a0_8 a0_9 a0_10 a1_0 a1_1 a1_2 a1_3 a1_4 a1_5 a1_6 a1_7 a1_8 a1_9 a1_10) K)) (n + 1) (F60_s0 a0_0 a0_1 a0_2 a0_3 a0_4 a0_5 a0_6 a0_7 a0_8 a0_9 a0_10 a1_0 a1_1 a1_2 a1_3 a1_4 a1_5 a1_6 a1_7 a1_8 a1_9 a1_10 x5_0) =
    F60_l0_T k a0_0 a0_1 a0_2 a0_3 a0_4 a0_5 a0_6 a0_7 a0_8 a0_9 a0_10 a1_0 a1_1 a1_2 a1_3 a1_4 a1_5 a1_6 a1_7 a1_8 a1_9 a1_10 (fun x5_0 => loopG (F60_E k) Try.f60 [1, 1, 0, 1, 0] 0 (kontAt (F60_E k) [1, 1, 0, 1, 0] (bodyOf Try.f60) 0 (endC (F60_E k) Try.f60 (F60_a a0_0 a0_1 a0_2 a0_3 a0_4 a0_5 a0_6 a0_7 a0_8 a0_9 a0_10 a1_0 a1_1 a1_2 a1_3 a1_4 a1_5 a1_6 a1_7 a1_8 a1_9 a1_10) K)) n (F60_s0 a0_0 a0_1 a0_2 a0_3 a0_4 a0_5 a0_6 a0_7 a0_8 a0_9 a0_10 a1_0 a1_1 a1_2 a1_3 a1_4 a1_5 a1_6 a1_7 a1_8 a1_9 a1_10 x5_0)) (fun r => K (F60_r r)) x5_0 := by kernel_rfl
theorem F60_l0_lp {β : Type} (k : Nat) (a0_0 a0_1 a0_2 a0_3 a0_4 : Int) (a0_5 a0_6 a0_7 a0_8 : Bool) (a0_9 : List (den rng)) (a0_10 : List (den (.int .u8))) (a1_0 a1_1 a1_2 a1_3 a1_4 : Int) (a1_5 a1_6 a1_7 a1_8 : Bool) (a1_9 : List (den rng)) (a1_10 : List (den (.int .u8))) (K : A × List (List Leaf) → Option β) (n : Nat) : ∀ (x5_0 : Int), loopG (F60_E k) Try.f60 [1, 1, 0, 1, 0] 0 (kontAt (F60_E k) [1, 1, 0, 1, 0] (bodyOf Try.f60) 0 (endC (F60_E k) Try.f60 (F60_a a0_0 a0_1 a0_2 a0_3 a0_4 a0_5 a0_6 a0_7 a0_8 a0_9 a0_10 a1_0 a1_1 a1_2 a1_3 a1_4 a1_5 a1_6 a1_7 a1_8 a1_9 a1_10) K)) n (F60_s0 a0_0 a0_1 a0_2 a0_3 a0_4 a0_5 a0_6 a0_7 a0_8 a0_9 a0_10 a1_0 a1_1 a1_2 a1_3 a1_4 a1_5 a1_6 a1_7 a1_8 a1_9 a1_10 x5_0) =
    (F60_l0 k a0_0 a0_1 a0_2 a0_3 a0_4 a0_5 a0_6 a0_7 a0_8 a0_9 a0_10 a1_0 a1_1 a1_2 a1_3 a1_4 a1_5 a1_6 a1_7 a1_8 a1_9 a1_10 n x5_0).bind fun r => K (F60_r r) := by
  induction n with
  | zero => intros; rfl
  | succ n ih =>
    intros
    rw [F60_l0_rd, F60_l0]
    simp only [F60_l0_T, bind_cond, Option.bind_assoc, Option.bind_some, Option.bind_none, Option.bind_fun_some, ih]
def F60_T {β : Type} (k : Nat) (a0_0 a0_1 a0_2 a0_3 a0_4 : Int) (a0_5 a0_6 a0_7 a0_8 : Bool) (a0_9 : List (den rng)) (a0_10 : List (den (.int .u8))) (a1_0 a1_1 a1_2 a1_3 a1_4 : Int) (a1_5 a1_6 a1_7 a1_8 : Bool) (a1_9 : List (den rng)) (a1_10 : List (den (.int .u8))) (LP0 : Int → Option β) (RET : Bool → Option β) : Option β := cond (a0_0 != a1_0) (RET false) (cond (a0_1 != a1_1) (RET false) (cond (!(a0_6 == a1_6)) (RET false) (cond (a0_3 != a1_3) (RET false) (cond (a0_4 != a1_4) (RET false) (cond (((a0_9.length : Nat) : Int) != ((a1_9.length : Nat) : Int)) (RET false) (LP0 0))))))
def F60 (k : Nat) (a0_0 a0_1 a0_2 a0_3 a0_4 : Int) (a0_5 a0_6 a0_7 a0_8 : Bool) (a0_9 : List (den rng)) (a0_10 : List (den (.int .u8))) (a1_0 a1_1 a1_2 a1_3 a1_4 : Int) (a1_5 a1_6 a1_7 a1_8 : Bool) (a1_9 : List (den rng)) (a1_10 : List (den (.int .u8))) : Option (Bool) := F60_T k a0_0 a0_1 a0_2 a0_3 a0_4 a0_5 a0_6 a0_7 a0_8 a0_9 a0_10 a1_0 a1_1 a1_2 a1_3 a1_4 a1_5 a1_6 a1_7 a1_8 a1_9 a1_10 (fun x5_0 => F60_l0 k a0_0 a0_1 a0_2 a0_3 a0_4 a0_5 a0_6 a0_7 a0_8 a0_9 a0_10 a1_0 a1_1 a1_2 a1_3 a1_4 a1_5 a1_6 a1_7 a1_8 a1_9 a1_10 k x5_0) some
theorem F60_st {β : Type} (k : Nat) (a0_0 a0_1 a0_2 a0_3 a0_4 : Int) (a0_5 a0_6 a0_7 a0_8 : Bool) (a0_9 : List (den rng)) (a0_10 : List (den (.int .u8))) (a1_0 a1_1 a1_2 a1_3 a1_4 : Int) (a1_5 a1_6 a1_7 a1_8 : Bool) (a1_9 : List (den rng)) (a1_10 : List (den (.int .u8))) (K : A × List (List Leaf) → Option β) : evalF (F60_E k) Try.f60 (F60_a a0_0 a0_1 a0_2 a0_3 a0_4 a0_5 a0_6 a0_7 a0_8 a0_9 a0_10 a1_0 a1_1 a1_2 a1_3 a1_4 a1_5 a1_6 a1_7 a1_8 a1_9 a1_10) K =
    F60_T k a0_0 a0_1 a0_2 a0_3 a0_4 a0_5 a0_6 a0_7 a0_8 a0_9 a0_10 a1_0 a1_1 a1_2 a1_3 a1_4 a1_5 a1_6 a1_7 a1_8 a1_9 a1_10 (fun x5_0 => loopG (F60_E k) Try.f60 [1, 1, 0, 1, 0] 0 (kontAt (F60_E k) [1, 1, 0, 1, 0] (bodyOf Try.f60) 0 (endC (F60_E k) Try.f60 (F60_a a0_0 a0_1 a0_2 a0_3 a0_4 a0_5 a0_6 a0_7 a0_8 a0_9 a0_10 a1_0 a1_1 a1_2 a1_3 a1_4 a1_5 a1_6 a1_7 a1_8 a1_9 a1_10) K)) k (F60_s0 a0_0 a0_1 a0_2 a0_3 a0_4 a0_5 a0_6 a0_7 a0_8 a0_9 a0_10 a1_0 a1_1 a1_2 a1_3 a1_4 a1_5 a1_6 a1_7 a1_8 a1_9 a1_10 x5_0)) (fun r => K (F60_r r)) := by kernel_rfl
theorem F60_ev {β : Type} (k : Nat) (a0_0 a0_1 a0_2 a0_3 a0_4 : Int) (a0_5 a0_6 a0_7 a0_8 : Bool) (a0_9 : List (den rng)) (a0_10 : List (den (.int .u8))) (a1_0 a1_1 a1_2 a1_3 a1_4 : Int) (a1_5 a1_6 a1_7 a1_8 : Bool) (a1_9 : List (den rng)) (a1_10 : List (den (.int .u8))) (K : A × List (List Leaf) → Option β) : evalF (F60_E k) Try.f60 (F60_a a0_0 a0_1 a0_2 a0_3 a0_4 a0_5 a0_6 a0_7 a0_8 a0_9 a0_10 a1_0 a1_1 a1_2 a1_3 a1_4 a1_5 a1_6 a1_7 a1_8 a1_9 a1_10) K = (F60 k a0_0 a0_1 a0_2 a0_3 a0_4 a0_5 a0_6 a0_7 a0_8 a0_9 a0_10 a1_0 a1_1 a1_2 a1_3 a1_4 a1_5 a1_6 a1_7 a1_8 a1_9 a1_10).bind fun r => K (F60_r r) := by
  rw [F60_st, F60]
  simp only [F60_T, bind_cond, Option.bind_assoc, Option.bind_some, Option.bind_none, Option.bind_fun_some, F60_l0_lp]
theorem F60_con (k : Nat) (a0_0 a0_1 a0_2 a0_3 a0_4 : Int) (a0_5 a0_6 a0_7 a0_8 : Bool) (a0_9 : List (den rng)) (a0_10 : List (den (.int .u8))) (a1_0 a1_1 a1_2 a1_3 a1_4 : Int) (a1_5 a1_6 a1_7 a1_8 : Bool) (a1_9 : List (den rng)) (a1_10 : List (den (.int .u8))) : Contract Try.prog 60 (F60_a a0_0 a0_1 a0_2 a0_3 a0_4 a0_5 a0_6 a0_7 a0_8 a0_9 a0_10 a1_0 a1_1 a1_2 a1_3 a1_4 a1_5 a1_6 a1_7 a1_8 a1_9 a1_10) ⟨F60 k a0_0 a0_1 a0_2 a0_3 a0_4 a0_5 a0_6 a0_7 a0_8 a0_9 a0_10 a1_0 a1_1 a1_2 a1_3 a1_4 a1_5 a1_6 a1_7 a1_8 a1_9 a1_10, F60_r⟩ := con_of (envOk .none _ _ _ _) mixed Try.func60 rfl rfl (F60_ev k a0_0 a0_1 a0_2 a0_3 a0_4 a0_5 a0_6 a0_7 a0_8 a0_9 a0_10 a1_0 a1_1 a1_2 a1_3 a1_4 a1_5 a1_6 a1_7 a1_8 a1_9 a1_10 some)
def F60_sh : List AK := [.agg [.l (.int .i64), .l (.int .i64), .l (.int .i64), .l (.int .i64), .l (.int .i64), .l (.bool), .l (.bool), .l (.bool), .l (.bool), .l (.sl .ro rng), .l (.sl .ro (.int .u8))], .agg [.l (.int .i64), .l (.int .i64), .l (.int .i64), .l (.int .i64), .l (.int .i64), .l (.bool), .l (.bool), .l (.bool), .l (.bool), .l (.sl .ro rng), .l (.sl .ro (.int .u8))]]
def F60_p (k : Nat) : List Arg → Option CR := cle F60_sh fun x => ⟨F60 k x.1.1 x.1.2.1 x.1.2.2.1 x.1.2.2.2.1 x.1.2.2.2.2.1 x.1.2.2.2.2.2.1 x.1.2.2.2.2.2.2.1 x.1.2.2.2.2.2.2.2.1 x.1.2.2.2.2.2.2.2.2.1 x.1.2.2.2.2.2.2.2.2.2.1 x.1.2.2.2.2.2.2.2.2.2.2.1 x.2.1.1 x.2.1.2.1 x.2.1.2.2.1 x.2.1.2.2.2.1 x.2.1.2.2.2.2.1 x.2.1.2.2.2.2.2.1 x.2.1.2.2.2.2.2.2.1 x.2.1.2.2.2.2.2.2.2.1 x.2.1.2.2.2.2.2.2.2.2.1 x.2.1.2.2.2.2.2.2.2.2.2.1 x.2.1.2.2.2.2.2.2.2.2.2.2.1, F60_r⟩
theorem F60_q (k : Nat) : ∀ xs cr, F60_p k xs = some cr → Contract Try.prog 60 xs cr := cle_ok fun x => F60_con k _ _ _ _ _ _ _ _ _ _ _ _ _ _ _ _ _ _ _ _ _ _
theorem F60_f : FnOk Try.prog 60 := .of (by kernel_rfl)
/-! 62: loop.example/netstack/spec.SegmentLong -/
abbrev F62_E (k : Nat) : Env := env noTab noHint .own [] k
abbrev F62_a (a0_0 a0_1 a0_2 a0_3 a0_4 : Int) (a0_5 a0_6 a0_7 a0_8 : Bool) (a0_9 : List (den rng)) (a0_10 : List (den (.int .u8))) : List Arg := [.agg [.l (.v (.int .i64 a0_0)), .l (.v (.int .i64 a0_1)), .l (.v (.int .i64 a0_2)), .l (.v (.int .i64 a0_3)), .l (.v (.int .i64 a0_4)), .l (.v (.bool a0_5)), .l (.v (.bool a0_6)), .l (.v (.bool a0_7)), .l (.v (.bool a0_8)), .l (.s .ro rng a0_9), .l (.s .ro (.int .u8) a0_10)]]
def F62_r (r : Int) : A × List (List Leaf) := (.one (.v (.int .i64 r)), [])
def F62_T {β : Type} (k : Nat) (a0_0 a0_1 a0_2 a0_3 a0_4 : Int) (a0_5 a0_6 a0_7 a0_8 : Bool) (a0_9 : List (den rng)) (a0_10 : List (den (.int .u8))) (RET : Int → Option β) : Option β := cond a0_5 (cond a0_7 (RET (IntKind.i64.wrap ((IntKind.i64.wrap (((a0_10.length : Nat) : Int) + 1)) + 1))) (RET (IntKind.i64.wrap (((a0_10.length : Nat) : Int) + 1)))) (cond a0_7 (RET (IntKind.i64.wrap (((a0_10.length : Nat) : Int) + 1))) (RET ((a0_10.length : Nat) : Int)))
def F62 (k : Nat) (a0_0 a0_1 a0_2 a0_3 a0_4 : Int) (a0_5 a0_6 a0_7 a0_8 : Bool) (a0_9 : List (den rng)) (a0_10 : List (den (.int .u8))) : Option (Int) := F62_T k a0_0 a0_1 a0_2 a0_3 a0_4 a0_5 a0_6 a0_7 a0_8 a0_9 a0_10 some
theorem F62_st {β : Type} (k : Nat) (a0_0 a0_1 a0_2 a0_3 a0_4 : Int) (a0_5 a0_6 a0_7 a0_8 : Bool) (a0_9 : List (den rng)) (a0_10 : List (den (.int .u8))) (K : A × List (List Leaf) → Option β) : evalF (F62_E k) Try.f62 (F62_a a0_0 a0_1 a0_2 a0_3 a0_4 a0_5 a0_6 a0_7 a0_8 a0_9 a0_10) K =
    F62_T k a0_0 a0_1 a0_2 a0_3 a0_4 a0_5 a0_6 a0_7 a0_8 a0_9 a0_10 (fun r => K (F62_r r)) := by kernel_rfl
theorem F62_ev {β : Type} (k : Nat) (a0_0 a0_1 a0_2 a0_3 a0_4 : Int) (a0_5 a0_6 a0_7 a0_8 : Bool) (a0_9 : List (den rng)) (a0_10 : List (den (.int .u8))) (K : A × List (List Leaf) → Option β) : evalF (F62_E k) Try.f62 (F62_a a0_0 a0_1 a0_2 a0_3 a0_4 a0_5 a0_6 a0_7 a0_8 a0_9 a0_10) K = (F62 k a0_0 a0_1 a0_2 a0_3 a0_4 a0_5 a0_6 a0_7 a0_8 a0_9 a0_10).bind fun r => K (F62_r r) := by
  rw [F62_st, F62]
  simp only [F62_T, bind_cond, Option.bind_assoc, Option.bind_some, Option.bind_none, Option.bind_fun_some]
theorem F62_con (k : Nat) (a0_0 a0_1 a0_2 a0_3 a0_4 : Int) (a0_5 a0_6 a0_7 a0_8 : Bool) (a0_9 : List (den rng)) (a0_10 : List (den (.int .u8))) : Contract Try.prog 62 (F62_a a0_0 a0_1 a0_2 a0_3 a0_4 a0_5 a0_6 a0_7 a0_8 a0_9 a0_10) ⟨F62 k a0_0 a0_1 a0_2 a0_3 a0_4 a0_5 a0_6 a0_7 a0_8 a0_9 a0_10, F62_r⟩ := con_of (envOk .none _ _ _ _) mixed Try.func62 rfl rfl (F62_ev k a0_0 a0_1 a0_2 a0_3 a0_4 a0_5 a0_6 a0_7 a0_8 a0_9 a0_10 some)
def F62_sh : List AK := [.agg [.l (.int .i64), .l (.int .i64), .l (.int .i64), .l (.int .i64), .l (.int .i64), .l (.bool), .l (.bool), .l (.bool), .l (.bool), .l (.sl .ro rng), .l (.sl .ro (.int .u8))]]
def F62_p (k : Nat) : List Arg → Option CR := cle F62_sh fun x => ⟨F62 k x.1.1 x.1.2.1 x.1.2.2.1 x.1.2.2.2.1 x.1.2.2.2.2.1 x.1.2.2.2.2.2.1 x.1.2.2.2.2.2.2.1 x.1.2.2.2.2.2.2.2.1 x.1.2.2.2.2.2.2.2.2.1 x.1.2.2.2.2.2.2.2.2.2.1 x.1.2.2.2.2.2.2.2.2.2.2.1, F62_r⟩
theorem F62_q (k : Nat) : ∀ xs cr, F62_p k xs = some cr → Contract Try.prog 62 xs cr := cle_ok fun x => F62_con k _ _ _ _ _ _ _ _ _ _ _
theorem F62_f : FnOk Try.prog 62 := .of (by kernel_rfl)
/-! 61: loop.example/netstack/spec.SeqOf -/
abbrev F61_E (k : Nat) : Env := env noTab noHint .own [] k
abbrev F61_a (a0 : Int) : List Arg := [.one (.l (.v (.int .i64 a0)))]
def F61_r (r : Int) : A × List (List Leaf) := (.one (.v (.int .i64 r)), [])
def F61 (k : Nat) (a0 : Int) : Option (Int) := cond (decide ((a0.tmod 65536) < 0)) (some (IntKind.i64.wrap ((a0.tmod 65536) + 65536))) (some (a0.tmod 65536))
theorem F61_st {β : Type} (k : Nat) (a0 : Int) (K : A × List (List Leaf) → Option β) : evalF (F61_E k) Try.f61 (F61_a a0) K =
    cond (decide ((a0.tmod 65536) < 0)) (K (.one (.v (.int .i64 (IntKind.i64.wrap ((a0.tmod 65536) + 65536)))), [])) (K (.one (.v (.int .i64 (a0.tmod 65536))), [])) := by kernel_rfl
theorem F61_ev {β : Type} (k : Nat) (a0 : Int) (K : A × List (List Leaf) → Option β) : evalF (F61_E k) Try.f61 (F61_a a0) K = (F61 k a0).bind fun r => K (F61_r r) := by
  rw [F61_st, F61]
  simp only [F61_r, bind_cond, Option.bind_assoc, Option.bind_some, Option.bind_none, Option.bind_fun_some]
theorem F61_con (k : Nat) (a0 : Int) : Contract Try.prog 61 (F61_a a0) ⟨F61 k a0, F61_r⟩ := con_of (envOk .none _ _ _ _) mixed Try.func61 rfl rfl (F61_ev k a0 some)
def F61_sh : List AK := [.one (.l (.int .i64))]
def F61_p (k : Nat) : List Arg → Option CR := cle F61_sh fun x => ⟨F61 k x.1, F61_r⟩
theorem F61_q (k : Nat) : ∀ xs cr, F61_p k xs = some cr → Contract Try.prog 61 xs cr := cle_ok fun x => F61_con k _
theorem F61_f : FnOk Try.prog 61 := .of (by kernel_rfl)
/-! 63: loop.example/netstack/spec.l21Copy -/
abbrev F63_E (k : Nat) : Env := env noTab noHint .own [] k
abbrev F63_a (a0_0 a0_1 a0_2 a0_3 a0_4 : Int) (a0_5 a0_6 a0_7 a0_8 : Bool) (a0_9 : List (den rng)) (a0_10 : List (den (.int .u8))) : List Arg := [.agg [.l (.v (.int .i64 a0_0)), .l (.v (.int .i64 a0_1)), .l (.v (.int .i64 a0_2)), .l (.v (.int .i64 a0_3)), .l (.v (.int .i64 a0_4)), .l (.v (.bool a0_5)), .l (.v (.bool a0_6)), .l (.v (.bool a0_7)), .l (.v (.bool a0_8)), .l (.s .ro rng a0_9), .l (.s .ro (.int .u8) a0_10)]]
def F63_r (r : Int × Int × Int × Int × Int × Bool × Bool × Bool × Bool × List (den rng) × List (den (.int .u8))) : A × List (List Leaf) := (.agg [.v (.int .i64 r.1), .v (.int .i64 r.2.1), .v (.int .i64 r.2.2.1), .v (.int .i64 r.2.2.2.1), .v (.int .i64 r.2.2.2.2.1), .v (.bool r.2.2.2.2.2.1), .v (.bool r.2.2.2.2.2.2.1), .v (.bool r.2.2.2.2.2.2.2.1), .v (.bool r.2.2.2.2.2.2.2.2.1), .s .own rng r.2.2.2.2.2.2.2.2.2.1, .s .own (.int .u8) r.2.2.2.2.2.2.2.2.2.2], [])
def F63_T {β : Type} (k : Nat) (a0_0 a0_1 a0_2 a0_3 a0_4 : Int) (a0_5 a0_6 a0_7 a0_8 : Bool) (a0_9 : List (den rng)) (a0_10 : List (den (.int .u8))) (RET : (Int × Int × Int × Int × Int × Bool × Bool × Bool × Bool × List (den rng) × List (den (.int .u8))) → Option β) : Option β := cond (decide ((([] : List (den rng)).length + a0_9.length) * 16 ≤ 140737488355328)) (cond (decide ((([] : List (den (.int .u8))).length + a0_10.length) * 1 ≤ 140737488355328)) (RET (a0_0, a0_1, a0_2, a0_3, a0_4, a0_5, a0_6, a0_7, a0_8, [] ++ a0_9, [] ++ a0_10)) none) none
def F63 (k : Nat) (a0_0 a0_1 a0_2 a0_3 a0_4 : Int) (a0_5 a0_6 a0_7 a0_8 : Bool) (a0_9 : List (den rng)) (a0_10 : List (den (.int .u8))) : Option (Int × Int × Int × Int × Int × Bool × Bool × Bool × Bool × List (den rng) × List (den (.int .u8))) := F63_T k a0_0 a0_1 a0_2 a0_3 a0_4 a0_5 a0_6 a0_7 a0_8 a0_9 a0_10 some
theorem F63_st {β : Type} (k : Nat) (a0_0 a0_1 a0_2 a0_3 a0_4 : Int) (a0_5 a0_6 a0_7 a0_8 : Bool) (a0_9 : List (den rng)) (a0_10 : List (den (.int .u8))) (K : A × List (List Leaf) → Option β) : evalF (F63_E k) Try.f63 (F63_a a0_0 a0_1 a0_2 a0_3 a0_4 a0_5 a0_6 a0_7 a0_8 a0_9 a0_10) K =
    F63_T k a0_0 a0_1 a0_2 a0_3 a0_4 a0_5 a0_6 a0_7 a0_8 a0_9 a0_10 (fun r => K (F63_r r)) := by kernel_rfl
theorem F63_ev {β : Type} (k : Nat) (a0_0 a0_1 a0_2 a0_3 a0_4 : Int) (a0_5 a0_6 a0_7 a0_8 : Bool) (a0_9 : List (den rng)) (a0_10 : List (den (.int .u8))) (K : A × List (List Leaf) → Option β) : evalF (F63_E k) Try.f63 (F63_a a0_0 a0_1 a0_2 a0_3 a0_4 a0_5 a0_6 a0_7 a0_8 a0_9 a0_10) K = (F63 k a0_0 a0_1 a0_2 a0_3 a0_4 a0_5 a0_6 a0_7 a0_8 a0_9 a0_10).bind fun r => K (F63_r r) := by
  rw [F63_st, F63]
  simp only [F63_T, bind_cond, Option.bind_assoc, Option.bind_some, Option.bind_none, Option.bind_fun_some]
theorem F63_con (k : Nat) (a0_0 a0_1 a0_2 a0_3 a0_4 : Int) (a0_5 a0_6 a0_7 a0_8 : Bool) (a0_9 : List (den rng)) (a0_10 : List (den (.int .u8))) : Contract Try.prog 63 (F63_a a0_0 a0_1 a0_2 a0_3 a0_4 a0_5 a0_6 a0_7 a0_8 a0_9 a0_10) ⟨F63 k a0_0 a0_1 a0_2 a0_3 a0_4 a0_5 a0_6 a0_7 a0_8 a0_9 a0_10, F63_r⟩ := con_of (envOk .none _ _ _ _) mixed Try.func63 rfl rfl (F63_ev k a0_0 a0_1 a0_2 a0_3 a0_4 a0_5 a0_6 a0_7 a0_8 a0_9 a0_10 some)
def F63_sh : List AK := [.agg [.l (.int .i64), .l (.int .i64), .l (.int .i64), .l (.int .i64), .l (.int .i64), .l (.bool), .l (.bool), .l (.bool), .l (.bool), .l (.sl .ro rng), .l (.sl .ro (.int .u8))]]
def F63_p (k : Nat) : List Arg → Option CR := cle F63_sh fun x => ⟨F63 k x.1.1 x.1.2.1 x.1.2.2.1 x.1.2.2.2.1 x.1.2.2.2.2.1 x.1.2.2.2.2.2.1 x.1.2.2.2.2.2.2.1 x.1.2.2.2.2.2.2.2.1 x.1.2.2.2.2.2.2.2.2.1 x.1.2.2.2.2.2.2.2.2.2.1 x.1.2.2.2.2.2.2.2.2.2.2.1, F63_r⟩
theorem F63_q (k : Nat) : ∀ xs cr, F63_p k xs = some cr → Contract Try.prog 63 xs cr := cle_ok fun x => F63_con k _ _ _ _ _ _ _ _ _ _ _
theorem F63_f : FnOk Try.prog 63 := .of (by kernel_rfl)
/-! 13: loop.example/netstack/spec.SegmentJoin -/
def F13_t (k : Nat) : Tab := entT 59 (F59_p k) <| entT 60 (F60_p k) <| entT 62 (F62_p k) <| entT 61 (F61_p k) <| entT 63 (F63_p k) <| noTab
abbrev F13_E (k : Nat) : Env := env (F13_t k) noHint .own [] k
abbrev F13_a (a0_0 a0_1 a0_2 a0_3 a0_4 : Int) (a0_5 a0_6 a0_7 a0_8 : Bool) (a0_9 : List (den rng)) (a0_10 : List (den (.int .u8))) (a1_0 a1_1 a1_2 a1_3 a1_4 : Int) (a1_5 a1_6 a1_7 a1_8 : Bool) (a1_9 : List (den rng)) (a1_10 : List (den (.int .u8))) : List Arg := [.agg [.l (.v (.int .i64 a0_0)), .l (.v (.int .i64 a0_1)), .l (.v (.int .i64 a0_2)), .l (.v (.int .i64 a0_3)), .l (.v (.int .i64 a0_4)), .l (.v (.bool a0_5)), .l (.v (.bool a0_6)), .l (.v (.bool a0_7)), .l (.v (.bool a0_8)), .l (.s .ro rng a0_9), .l (.s .ro (.int .u8) a0_10)], .agg [.l (.v (.int .i64 a1_0)), .l (.v (.int .i64 a1_1)), .l (.v (.int .i64 a1_2)), .l (.v (.int .i64 a1_3)), .l (.v (.int .i64 a1_4)), .l (.v (.bool a1_5)), .l (.v (.bool a1_6)), .l (.v (.bool a1_7)), .l (.v (.bool a1_8)), .l (.s .ro rng a1_9), .l (.s .ro (.int .u8) a1_10)]]
def F13_r (r : Int × Int × Int × Int × Int × Bool × Bool × Bool × Bool × List (den rng) × List (den (.int .u8)) × Bool) : A × List (List Leaf) := (.tup [(true, [.v (.int .i64 r.1), .v (.int .i64 r.2.1), .v (.int .i64 r.2.2.1), .v (.int .i64 r.2.2.2.1), .v (.int .i64 r.2.2.2.2.1), .v (.bool r.2.2.2.2.2.1), .v (.bool r.2.2.2.2.2.2.1), .v (.bool r.2.2.2.2.2.2.2.1), .v (.bool r.2.2.2.2.2.2.2.2.1), .s .own rng r.2.2.2.2.2.2.2.2.2.1, .s .own (.int .u8) r.2.2.2.2.2.2.2.2.2.2.1]), (false, [.v (.bool r.2.2.2.2.2.2.2.2.2.2.2)])], [])
def F13_T {β : Type} (k : Nat) (a0_0 a0_1 a0_2 a0_3 a0_4 : Int) (a0_5 a0_6 a0_7 a0_8 : Bool) (a0_9 : List (den rng)) (a0_10 : List (den (.int .u8))) (a1_0 a1_1 a1_2 a1_3 a1_4 : Int) (a1_5 a1_6 a1_7 a1_8 : Bool) (a1_9 : List (den rng)) (a1_10 : List (den (.int .u8))) (RET : (Int × Int × Int × Int × Int × Bool × Bool × Bool × Bool × List (den rng) × List (den (.int .u8)) × Bool) → Option β) : Option β := (F59 k a0_0 a0_1 a0_2 a0_3 a0_4 a0_5 a0_6 a0_7 a0_8 a0_9 a0_10).bind fun b1 => cond (!b1) (RET (0, 0, 0, 0, 0, false, false, false, false, [], [], false)) ((F59 k a1_0 a1_1 a1_2 a1_3 a1_4 a1_5 a1_6 a1_7 a1_8 a1_9 a1_10).bind fun b2 => cond (!b2) (RET (0, 0, 0, 0, 0, false, false, false, false, [], [], false)) ((F60 k a0_0 a0_1 a0_2 a0_3 a0_4 a0_5 a0_6 a0_7 a0_8 a0_9 a0_10 a1_0 a1_1 a1_2 a1_3 a1_4 a1_5 a1_6 a1_7 a1_8 a1_9 a1_10).bind fun b3 => cond (!b3) (RET (0, 0, 0, 0, 0, false, false, false, false, [], [], false)) (cond a0_8 (RET (0, 0, 0, 0, 0, false, false, false, false, [], [], false)) (cond a1_8 (RET (0, 0, 0, 0, 0, false, false, false, false, [], [], false)) (cond (((a0_10.length : Nat) : Int) == 0) (RET (0, 0, 0, 0, 0, false, false, false, false, [], [], false)) (cond (((a1_10.length : Nat) : Int) == 0) (RET (0, 0, 0, 0, 0, false, false, false, false, [], [], false)) (cond a0_7 (RET (0, 0, 0, 0, 0, false, false, false, false, [], [], false)) (cond a1_5 (RET (0, 0, 0, 0, 0, false, false, false, false, [], [], false)) ((F62 k a0_0 a0_1 a0_2 a0_3 a0_4 a0_5 a0_6 a0_7 a0_8 a0_9 a0_10).bind fun b4 => (F61 k (IntKind.i64.wrap (a0_2 + b4))).bind fun b5 => cond (a1_2 != b5) (RET (0, 0, 0, 0, 0, false, false, false, false, [], [], false)) (cond (decide ((IntKind.i64.wrap (((a0_10.length : Nat) : Int) + ((a1_10.length : Nat) : Int))) > 12)) (RET (0, 0, 0, 0, 0, false, false, false, false, [], [], false)) ((F63 k a0_0 a0_1 a0_2 a0_3 a0_4 a0_5 a0_6 a0_7 a0_8 a0_9 a0_10).bind fun b6 => cond (decide ((b6.2.2.2.2.2.2.2.2.2.2.length + a1_10.length) * 1 ≤ 140737488355328)) (RET (b6.1, b6.2.1, b6.2.2.1, b6.2.2.2.1, b6.2.2.2.2.1, b6.2.2.2.2.2.1, b6.2.2.2.2.2.2.1, a1_7, b6.2.2.2.2.2.2.2.2.1, b6.2.2.2.2.2.2.2.2.2.1, b6.2.2.2.2.2.2.2.2.2.2 ++ a1_10, true)) none)))))))))))
def F13 (k : Nat) (a0_0 a0_1 a0_2 a0_3 a0_4 : Int) (a0_5 a0_6 a0_7 a0_8 : Bool) (a0_9 : List (den rng)) (a0_10 : List (den (.int .u8))) (a1_0 a1_1 a1_2 a1_3 a1_4 : Int) (a1_5 a1_6 a1_7 a1_8 : Bool) (a1_9 : List (den rng)) (a1_10 : List (den (.int .u8))) : Option (Int × Int × Int × Int × Int × Bool × Bool × Bool × Bool × List (den rng) × List (den (.int .u8)) × Bool) := F13_T k a0_0 a0_1 a0_2 a0_3 a0_4 a0_5 a0_6 a0_7 a0_8 a0_9 a0_10 a1_0 a1_1 a1_2 a1_3 a1_4 a1_5 a1_6 a1_7 a1_8 a1_9 a1_10 some
theorem F13_st {β : Type} (k : Nat) (a0_0 a0_1 a0_2 a0_3 a0_4 : Int) (a0_5 a0_6 a0_7 a0_8 : Bool) (a0_9 : List (den rng)) (a0_10 : List (den (.int .u8))) (a1_0 a1_1 a1_2 a1_3 a1_4 : Int) (a1_5 a1_6 a1_7 a1_8 : Bool) (a1_9 : List (den rng)) (a1_10 : List (den (.int .u8))) (K : A × List (List Leaf) → Option β) : evalF (F13_E k) Try.f13 (F13_a a0_0 a0_1 a0_2 a0_3 a0_4 a0_5 a0_6 a0_7 a0_8 a0_9 a0_10 a1_0 a1_1 a1_2 a1_3 a1_4 a1_5 a1_6 a1_7 a1_8 a1_9 a1_10) K =
    F13_T k a0_0 a0_1 a0_2 a0_3 a0_4 a0_5 a0_6 a0_7 a0_8 a0_9 a0_10 a1_0 a1_1 a1_2 a1_3 a1_4 a1_5 a1_6 a1_7 a1_8 a1_9 a1_10 (fun r => K (F13_r r)) := by kernel_rfl
theorem F13_ev {β : Type} (k : Nat) (a0_0 a0_1 a0_2 a0_3 a0_4 : Int) (a0_5 a0_6 a0_7 a0_8 : Bool) (a0_9 : List (den rng)) (a0_10 : List (den (.int .u8))) (a1_0 a1_1 a1_2 a1_3 a1_4 : Int) (a1_5 a1_6 a1_7 a1_8 : Bool) (a1_9 : List (den rng)) (a1_10 : List (den (.int .u8))) (K : A × List (List Leaf) → Option β) : evalF (F13_E k) Try.f13 (F13_a a0_0 a0_1 a0_2 a0_3 a0_4 a0_5 a0_6 a0_7 a0_8 a0_9 a0_10 a1_0 a1_1 a1_2 a1_3 a1_4 a1_5 a1_6 a1_7 a1_8 a1_9 a1_10) K = (F13 k a0_0 a0_1 a0_2 a0_3 a0_4 a0_5 a0_6 a0_7 a0_8 a0_9 a0_10 a1_0 a1_1 a1_2 a1_3 a1_4 a1_5 a1_6 a1_7 a1_8 a1_9 a1_10).bind fun r => K (F13_r r) := by
  rw [F13_st, F13]
  simp only [F13_T, bind_cond, Option.bind_assoc, Option.bind_some, Option.bind_none, Option.bind_fun_some]
theorem F13_tOk (k : Nat) : TabFn Try.prog (F13_t k) := .ent (F59_q k) F59_f (.ent (F60_q k) F60_f (.ent (F62_q k) F62_f (.ent (F61_q k) F61_f (.ent (F63_q k) F63_f (.none)))))
theorem F13_con (k : Nat) (a0_0 a0_1 a0_2 a0_3 a0_4 : Int) (a0_5 a0_6 a0_7 a0_8 : Bool) (a0_9 : List (den rng)) (a0_10 : List (den (.int .u8))) (a1_0 a1_1 a1_2 a1_3 a1_4 : Int) (a1_5 a1_6 a1_7 a1_8 : Bool) (a1_9 : List (den rng)) (a1_10 : List (den (.int .u8))) : Contract Try.prog 13 (F13_a a0_0 a0_1 a0_2 a0_3 a0_4 a0_5 a0_6 a0_7 a0_8 a0_9 a0_10 a1_0 a1_1 a1_2 a1_3 a1_4 a1_5 a1_6 a1_7 a1_8 a1_9 a1_10) ⟨F13 k a0_0 a0_1 a0_2 a0_3 a0_4 a0_5 a0_6 a0_7 a0_8 a0_9 a0_10 a1_0 a1_1 a1_2 a1_3 a1_4 a1_5 a1_6 a1_7 a1_8 a1_9 a1_10, F13_r⟩ := con_of (envOk (F13_tOk k) _ _ _ _) mixed Try.func13 rfl rfl (F13_ev k a0_0 a0_1 a0_2 a0_3 a0_4 a0_5 a0_6 a0_7 a0_8 a0_9 a0_10 a1_0 a1_1 a1_2 a1_3 a1_4 a1_5 a1_6 a1_7 a1_8 a1_9 a1_10 some)
def F13_sh : List AK := [.agg [.l (.int .i64), .l (.int .i64), .l (.int .i64), .l (.int .i64), .l (.int .i64), .l (.bool), .l (.bool), .l (.bool), .l (.bool), .l (.sl .ro rng), .l (.sl .ro (.int .u8))], .agg [.l (.int .i64), .l (.int .i64), .l (.int .i64), .l (.int .i64), .l (.int .i64), .l (.bool), .l (.bool), .l (.bool), .l (.bool), .l (.sl .ro rng), .l (.sl .ro (.int .u8))]]
def F13_p (k : Nat) : List Arg → Option CR := cle F13_sh fun x => ⟨F13 k x.1.1 x.1.2.1 x.1.2.2.1 x.1.2.2.2.1 x.1.2.2.2.2.1 x.1.2.2.2.2.2.1 x.1.2.2.2.2.2.2.1 x.1.2.2.2.2.2.2.2.1 x.1.2.2.2.2.2.2.2.2.1 x.1.2.2.2.2.2.2.2.2.2.1 x.1.2.2.2.2.2.2.2.2.2.2.1 x.2.1.1 x.2.1.2.1 x.2.1.2.2.1 x.2.1.2.2.2.1 x.2.1.2.2.2.2.1 x.2.1.2.2.2.2.2.1 x.2.1.2.2.2.2.2.2.1 x.2.1.2.2.2.2.2.2.2.1 x.2.1.2.2.2.2.2.2.2.2.1 x.2.1.2.2.2.2.2.2.2.2.2.1 x.2.1.2.2.2.2.2.2.2.2.2.2.1, F13_r⟩
theorem F13_q (k : Nat) : ∀ xs cr, F13_p k xs = some cr → Contract Try.prog 13 xs cr := cle_ok fun x => F13_con k _ _ _ _ _ _ _ _ _ _ _ _ _ _ _ _ _ _ _ _ _ _
theorem F13_f : FnOk Try.prog 13 := .of (by kernel_rfl)
/-! 106: loop.example/netstack/impl.in -/
abbrev F106_E (k : Nat) : Env := env noTab noHint .own [] k
abbrev F106_a (a0 a1 a2 : Int) : List Arg := [.one (.l (.v (.int .i64 a0))), .one (.l (.v (.int .i64 a1))), .one (.l (.v (.int .i64 a2)))]
def F106_r (r : Bool) : A × List (List Leaf) := (.one (.v (.bool r)), [])
def F106 (k : Nat) (a0 a1 a2 : Int) : Option (Bool) := cond (decide (a0 ≥ a1)) (some (decide (a0 ≤ a2))) (some false)
theorem F106_st {β : Type} (k : Nat) (a0 a1 a2 : Int) (K : A × List (List Leaf) → Option β) : evalF (F106_E k) Try.f106 (F106_a a0 a1 a2) K =
    cond (decide (a0 ≥ a1)) (K (.one (.v (.bool (decide (a0 ≤ a2)))), [])) (K (.one (.v (.bool false)), [])) := by kernel_rfl
theorem F106_ev {β : Type} (k : Nat) (a0 a1 a2 : Int) (K : A × List (List Leaf) → Option β) : evalF (F106_E k) Try.f106 (F106_a a0 a1 a2) K = (F106 k a0 a1 a2).bind fun r => K (F106_r r) := by
  rw [F106_st, F106]
  simp only [F106_r, bind_cond, Option.bind_assoc, Option.bind_some, Option.bind_none, Option.bind_fun_some]
theorem F106_con (k : Nat) (a0 a1 a2 : Int) : Contract Try.prog 106 (F106_a a0 a1 a2) ⟨F106 k a0 a1 a2, F106_r⟩ := con_of (envOk .none _ _ _ _) mixed Try.func106 rfl rfl (F106_ev k a0 a1 a2 some)
def F106_sh : List AK := [.one (.l (.int .i64)), .one (.l (.int .i64)), .one (.l (.int .i64))]
def F106_p (k : Nat) : List Arg → Option CR := cle F106_sh fun x => ⟨F106 k x.1 x.2.1 x.2.2.1, F106_r⟩
theorem F106_q (k : Nat) : ∀ xs cr, F106_p k xs = some cr → Contract Try.prog 106 xs cr := cle_ok fun x => F106_con k _ _ _
theorem F106_f : FnOk Try.prog 106 := .of (by kernel_rfl)
/-! 97: loop.example/netstack/impl.portOk -/
def F97_t (k : Nat) : Tab := entT 106 (F106_p k) <| noTab
abbrev F97_E (k : Nat) : Env := env (F97_t k) noHint .own [] k
abbrev F97_a (a0 : Int) : List Arg := [.one (.l (.v (.int .i64 a0)))]
def F97_r (r : Bool) : A × List (List Leaf) := (.one (.v (.bool r)), [])
def F97 (k : Nat) (a0 : Int) : Option (Bool) := (F106 k a0 1 255).bind fun b1 => some b1
theorem F97_st {β : Type} (k : Nat) (a0 : Int) (K : A × List (List Leaf) → Option β) : evalF (F97_E k) Try.f97 (F97_a a0) K =
    (F106 k a0 1 255).bind fun b1 => K (.one (.v (.bool b1)), []) := by kernel_rfl
theorem F97_ev {β : Type} (k : Nat) (a0 : Int) (K : A × List (List Leaf) → Option β) : evalF (F97_E k) Try.f97 (F97_a a0) K = (F97 k a0).bind fun r => K (F97_r r) := by
  rw [F97_st, F97]
  simp only [F97_r, bind_cond, Option.bind_assoc, Option.bind_some, Option.bind_none, Option.bind_fun_some]
theorem F97_tOk (k : Nat) : TabFn Try.prog (F97_t k) := .ent (F106_q k) F106_f (.none)
theorem F97_con (k : Nat) (a0 : Int) : Contract Try.prog 97 (F97_a a0) ⟨F97 k a0, F97_r⟩ := con_of (envOk (F97_tOk k) _ _ _ _) mixed Try.func97 rfl rfl (F97_ev k a0 some)
def F97_sh : List AK := [.one (.l (.int .i64))]
def F97_p (k : Nat) : List Arg → Option CR := cle F97_sh fun x => ⟨F97 k x.1, F97_r⟩
theorem F97_q (k : Nat) : ∀ xs cr, F97_p k xs = some cr → Contract Try.prog 97 xs cr := cle_ok fun x => F97_con k _
theorem F97_f : FnOk Try.prog 97 := .of (by kernel_rfl)
/-! 96: loop.example/netstack/impl.word -/
def F96_t (k : Nat) : Tab := entT 106 (F106_p k) <| noTab
abbrev F96_E (k : Nat) : Env := env (F96_t k) noHint .own [] k
abbrev F96_a (a0 : Int) : List Arg := [.one (.l (.v (.int .i64 a0)))]
def F96_r (r : Bool) : A × List (List Leaf) := (.one (.v (.bool r)), [])
def F96 (k : Nat) (a0 : Int) : Option (Bool) := (F106 k a0 0 65535).bind fun b1 => some b1
theorem F96_st {β : Type} (k : Nat) (a0 : Int) (K : A × List (List Leaf) → Option β) : evalF (F96_E k) Try.f96 (F96_a a0) K =
    (F106 k a0 0 65535).bind fun b1 => K (.one (.v (.bool b1)), []) := by kernel_rfl
theorem F96_ev {β : Type} (k : Nat) (a0 : Int) (K : A × List (List Leaf) → Option β) : evalF (F96_E k) Try.f96 (F96_a a0) K = (F96 k a0).bind fun r => K (F96_r r) := by
  rw [F96_st, F96]
  simp only [F96_r, bind_cond, Option.bind_assoc, Option.bind_some, Option.bind_none, Option.bind_fun_some]
theorem F96_tOk (k : Nat) : TabFn Try.prog (F96_t k) := .ent (F106_q k) F106_f (.none)
theorem F96_con (k : Nat) (a0 : Int) : Contract Try.prog 96 (F96_a a0) ⟨F96 k a0, F96_r⟩ := con_of (envOk (F96_tOk k) _ _ _ _) mixed Try.func96 rfl rfl (F96_ev k a0 some)
def F96_sh : List AK := [.one (.l (.int .i64))]
def F96_p (k : Nat) : List Arg → Option CR := cle F96_sh fun x => ⟨F96 k x.1, F96_r⟩
theorem F96_q (k : Nat) : ∀ xs cr, F96_p k xs = some cr → Contract Try.prog 96 xs cr := cle_ok fun x => F96_con k _
theorem F96_f : FnOk Try.prog 96 := .of (by kernel_rfl)
/-! 135: loop.example/netstack/impl.SegmentOk$1 -/
def F135_t (k : Nat) : Tab := entT 96 (F96_p k) <| noTab
abbrev F135_E (k : Nat) : Env := env (F135_t k) noHint .own [] k
abbrev F135_a (a0_0 a0_1 : Int) : List Arg := [.agg [.l (.v (.int .i64 a0_0)), .l (.v (.int .i64 a0_1))]]
def F135_r (r : Bool) : A × List (List Leaf) := (.one (.v (.bool r)), [])
def F135 (k : Nat) (a0_0 a0_1 : Int) : Option (Bool) := (F96 k a0_0).bind fun b1 => cond (!b1) (some true) ((F96 k a0_1).bind fun b2 => some (!b2))
theorem F135_st {β : Type} (k : Nat) (a0_0 a0_1 : Int) (K : A × List (List Leaf) → Option β) : evalF (F135_E k) Try.f135 (F135_a a0_0 a0_1) K =
    (F96 k a0_0).bind fun b1 => cond (!b1) (K (.one (.v (.bool true)), [])) ((F96 k a0_1).bind fun b2 => K (.one (.v (.bool (!b2))), [])) := by kernel_rfl
theorem F135_ev {β : Type} (k : Nat) (a0_0 a0_1 : Int) (K : A × List (List Leaf) → Option β) : evalF (F135_E k) Try.f135 (F135_a a0_0 a0_1) K = (F135 k a0_0 a0_1).bind fun r => K (F135_r r) := by
  rw [F135_st, F135]
  simp only [F135_r, bind_cond, Option.bind_assoc, Option.bind_some, Option.bind_none, Option.bind_fun_some]
theorem F135_tOk (k : Nat) : TabFn Try.prog (F135_t k) := .ent (F96_q k) F96_f (.none)
theorem F135_con (k : Nat) (a0_0 a0_1 : Int) : Contract Try.prog 135 (F135_a a0_0 a0_1) ⟨F135 k a0_0 a0_1, F135_r⟩ := con_of (envOk (F135_tOk k) _ _ _ _) mixed Try.func135 rfl rfl (F135_ev k a0_0 a0_1 some)
def F135_sh : List AK := [.agg [.l (.int .i64), .l (.int .i64)]]
def F135_p (k : Nat) : List Arg → Option CR := cle F135_sh fun x => ⟨F135 k x.1.1 x.1.2.1, F135_r⟩
theorem F135_q (k : Nat) : ∀ xs cr, F135_p k xs = some cr → Contract Try.prog 135 xs cr := cle_ok fun x => F135_con k _ _
theorem F135_f : FnOk Try.prog 135 := .of (by kernel_rfl)
/-! 166: slices.IndexFunc[[]loop.example/netstack/impl.Range,loop.example/netstack/impl.Range] -/
def F166_h : Nat → Hint
  | 0 => ⟨[(0, .plain), (1, .plain), (7, .plain), (8, .plain)], []⟩
  | _ => ⟨[], []⟩
def F166_t (k : Nat) : Tab := entT 135 (F135_p k) <| noTab
abbrev F166_E (k : Nat) : Env := env (F166_t k) F166_h .own [] k
abbrev F166_a (a0 : List (den rng)) : List Arg := [.one (.l (.s .ro rng a0)), .one (.fn 135 [])]
def F166_r (r : Int) : A × List (List Leaf) := (.one (.v (.int .i64 r)), [])
def F166_s0 (a0 : List (den rng)) (x8_0 : Int) : St := ⟨(.one (.s .ro rng a0)) :: (.one (.fn 135 [])) :: dz 5 ((.one (.v (.int .i64 ((a0.length : Nat) : Int)))) :: (.one (.v (.int .i64 x8_0))) :: dz 10 []), []⟩
def F166_l0_T {β : Type} (k : Nat) (a0 : List (den rng)) (NX : Int → Option β) (RET : Int → Option β) (x8_0 : Int) : Option β := cond (decide (x8_0 < ((a0.length : Nat) : Int))) (cond (decide (0 ≤ x8_0)) (cond (decide (x8_0 < ((a0.length : Nat) : Int))) ((F135 k ((atI a0 x8_0).1) ((atI a0 x8_0).2)).bind fun b1 => cond b1 (RET x8_0) (NX (IntKind.i64.wrap (x8_0 + 1)))) none) none) (RET (-1))
def F166_l0 (k : Nat) (a0 : List (den rng)) : Nat → Int → Option (Int)
  | 0, _ => none
  | n + 1, x8_0 => F166_l0_T k a0 (fun x8_0 => F166_l0 k a0 n x8_0) some x8_0
theorem F166_l0_rd {β : Type} (k n : Nat) (a0 : List (den rng)) (x8_0 : Int) (K : A × List (List Leaf) → Option β) :
    loopG (F166_E k) Try.f166 [1, 0, 1, 0] 0 (kontAt (F166_E k) [1, 0, 1, 0] (bodyOf Try.f166) 0 (endC (F166_E k) Try.f166 (F166_a a0) K)) (n + 1) (F166_s0 a0 x8_0) =
    F166_l0_T k a0 (fun x8_0 => loopG (F166_E k) Try.f166 [1, 0, 1, 0] 0 (kontAt (F166_E k) [1, 0, 1, 0] (bodyOf Try.f166) 0 (endC (F166_E k) Try.f166 (F166_a a0) K)) n (F166_s0 a0 x8_0)) (fun r => K (F166_r r)) x8_0 := by kernel_rfl
theorem F166_l0_lp {β : Type} (k : Nat) (a0 : List (den rng)) (K : A × List (List Leaf) → Option β) (n : Nat) : ∀ (x8_0 : Int), loopG (F166_E k) Try.f166 [1, 0, 1, 0] 0 (kontAt (F166_E k) [1, 0, 1, 0] (bodyOf Try.f166) 0 (endC (F166_E k) Try.f166 (F166_a a0) K)) n (F166_s0 a0 x8_0) =
    (F166_l0 k a0 n x8_0).bind fun r => K (F166_r r) := by
  induction n with
  | zero => intros; rfl
  | succ n ih =>
    intros
    rw [F166_l0_rd, F166_l0]
    simp only [F166_l0_T, bind_cond, Option.bind_assoc, Option.bind_some, Option.bind_none, Option.bind_fun_some, ih]
def F166_T {β : Type} (k : Nat) (a0 : List (den rng)) (LP0 : Int → Option β) : Option β := LP0 0
def F166 (k : Nat) (a0 : List (den rng)) : Option (Int) := F166_T k a0 (fun x8_0 => F166_l0 k a0 k x8_0)
theorem F166_st {β : Type} (k : Nat) (a0 : List (den rng)) (K : A × List (List Leaf) → Option β) : evalF (F166_E k) Try.f166 (F166_a a0) K =
    F166_T k a0 (fun x8_0 => loopG (F166_E k) Try.f166 [1, 0, 1, 0] 0 (kontAt (F166_E k) [1, 0, 1, 0] (bodyOf Try.f166) 0 (endC (F166_E k) Try.f166 (F166_a a0) K)) k (F166_s0 a0 x8_0)) := by kernel_rfl
theorem F166_ev {β : Type} (k : Nat) (a0 : List (den rng)) (K : A × List (List Leaf) → Option β) : evalF (F166_E k) Try.f166 (F166_a a0) K = (F166 k a0).bind fun r => K (F166_r r) := by
  rw [F166_st, F166]
  simp only [F166_T, bind_cond, Option.bind_assoc, Option.bind_some, Option.bind_none, Option.bind_fun_some, F166_l0_lp]
theorem F166_tOk (k : Nat) : TabFn Try.prog (F166_t k) := .ent (F135_q k) F135_f (.none)
theorem F166_con (k : Nat) (a0 : List (den rng)) : Contract Try.prog 166 (F166_a a0) ⟨F166 k a0, F166_r⟩ := con_of (envOk (F166_tOk k) _ _ _ _) mixed Try.func166 rfl rfl (F166_ev k a0 some)
def F166_sh : List AK := [.one (.l (.sl .ro rng)), .one (.fn 135)]
def F166_p (k : Nat) : List Arg → Option CR := cle F166_sh fun x => ⟨F166 k x.1, F166_r⟩
theorem F166_q (k : Nat) : ∀ xs cr, F166_p k xs = some cr → Contract Try.prog 166 xs cr := cle_ok fun x => F166_con k _
theorem F166_f : FnOk Try.prog 166 := .of (by kernel_rfl)
/-! 134: slices.ContainsFunc[[]loop.example/netstack/impl.Range,loop.example/netstack/impl.Range] -/
def F134_t (k : Nat) : Tab := entT 166 (F166_p k) <| noTab
abbrev F134_E (k : Nat) : Env := env (F134_t k) noHint .own [] k
abbrev F134_a (a0 : List (den rng)) : List Arg := [.one (.l (.s .ro rng a0)), .one (.fn 135 [])]
def F134_r (r : Bool) : A × List (List Leaf) := (.one (.v (.bool r)), [])
def F134 (k : Nat) (a0 : List (den rng)) : Option (Bool) := (F166 k a0).bind fun b1 => some (decide (b1 ≥ 0))
theorem F134_st {β : Type} (k : Nat) (a0 : List (den rng)) (K : A × List (List Leaf) → Option β) : evalF (F134_E k) Try.f134 (F134_a a0) K =
    (F166 k a0).bind fun b1 => K (.one (.v (.bool (decide (b1 ≥ 0)))), []) := by kernel_rfl
theorem F134_ev {β : Type} (k : Nat) (a0 : List (den rng)) (K : A × List (List Leaf) → Option β) : evalF (F134_E k) Try.f134 (F134_a a0) K = (F134 k a0).bind fun r => K (F134_r r) := by
  rw [F134_st, F134]
  simp only [F134_r, bind_cond, Option.bind_assoc, Option.bind_some, Option.bind_none, Option.bind_fun_some]
theorem F134_tOk (k : Nat) : TabFn Try.prog (F134_t k) := .ent (F166_q k) F166_f (.none)
theorem F134_con (k : Nat) (a0 : List (den rng)) : Contract Try.prog 134 (F134_a a0) ⟨F134 k a0, F134_r⟩ := con_of (envOk (F134_tOk k) _ _ _ _) mixed Try.func134 rfl rfl (F134_ev k a0 some)
def F134_sh : List AK := [.one (.l (.sl .ro rng)), .one (.fn 135)]
def F134_p (k : Nat) : List Arg → Option CR := cle F134_sh fun x => ⟨F134 k x.1, F134_r⟩
theorem F134_q (k : Nat) : ∀ xs cr, F134_p k xs = some cr → Contract Try.prog 134 xs cr := cle_ok fun x => F134_con k _
theorem F134_f : FnOk Try.prog 134 := .of (by kernel_rfl)
/-! 65: loop.example/netstack/impl.SegmentOk -/
def F65_t (k : Nat) : Tab := entT 97 (F97_p k) <| entT 96 (F96_p k) <| entT 106 (F106_p k) <| entT 134 (F134_p k) <| noTab
abbrev F65_E (k : Nat) : Env := env (F65_t k) noHint .own [] k
abbrev F65_a (a0_0 a0_1 a0_2 a0_3 a0_4 : Int) (a0_5 a0_6 a0_7 a0_8 : Bool) (a0_9 : List (den rng)) (a0_10 : List (den (.int .u8))) : List Arg := [.agg [.l (.v (.int .i64 a0_0)), .l (.v (.int .i64 a0_1)), .l (.v (.int .i64 a0_2)), .l (.v (.int .i64 a0_3)), .l (.v (.int .i64 a0_4)), .l (.v (.bool a0_5)), .l (.v (.bool a0_6)), .l (.v (.bool a0_7)), .l (.v (.bool a0_8)), .l (.s .ro rng a0_9), .l (.s .ro (.int .u8) a0_10)]]
def F65_r (r : Bool) : A × List (List Leaf) := (.one (.v (.bool r)), [])
def F65_T {β : Type} (k : Nat) (a0_0 a0_1 a0_2 a0_3 a0_4 : Int) (a0_5 a0_6 a0_7 a0_8 : Bool) (a0_9 : List (den rng)) (a0_10 : List (den (.int .u8))) (RET : Bool → Option β) : Option β := (F97 k a0_0).bind fun b1 => cond (!b1) (RET false) ((F97 k a0_1).bind fun b2 => cond (!b2) (RET false) ((F96 k a0_2).bind fun b3 => cond (!b3) (RET false) ((F96 k a0_3).bind fun b4 => cond (!b4) (RET false) ((F106 k a0_4 0 255).bind fun b5 => cond (!b5) (RET false) (cond (decide (((a0_9.length : Nat) : Int) > 2)) (RET false) (cond (decide (((a0_10.length : Nat) : Int) > 12)) (RET false) ((F134 k a0_9).bind fun b6 => cond b6 (RET false) (cond (!a0_6) (cond (a0_3 != 0) (RET false) (cond (a0_4 != 0) (RET false) (cond (decide (((a0_9.length : Nat) : Int) > 0)) (RET false) (cond (!a0_8) (RET true) (cond (!a0_5) (cond (!a0_7) (RET (((a0_10.length : Nat) : Int) == 0)) (RET false)) (RET false)))))) (cond (!a0_8) (RET true) (cond (!a0_5) (cond (!a0_7) (RET (((a0_10.length : Nat) : Int) == 0)) (RET false)) (RET false)))))))))))
def F65 (k : Nat) (a0_0 a0_1 a0_2 a0_3 a0_4 : Int) (a0_5 a0_6 a0_7 a0_8 : Bool) (a0_9 : List (den rng)) (a0_10 : List (den (.int .u8))) : Option (Bool) := F65_T k a0_0 a0_1 a0_2 a0_3 a0_4 a0_5 a0_6 a0_7 a0_8 a0_9 a0_10 some
theorem F65_st {β : Type} (k : Nat) (a0_0 a0_1 a0_2 a0_3 a0_4 : Int) (a0_5 a0_6 a0_7 a0_8 : Bool) (a0_9 : List (den rng)) (a0_10 : List (den (.int .u8))) (K : A × List (List Leaf) → Option β) : evalF (F65_E k) Try.f65 (F65_a a0_0 a0_1 a0_2 a0_3 a0_4 a0_5 a0_6 a0_7 a0_8 a0_9 a0_10) K =
    F65_T k a0_0 a0_1 a0_2 a0_3 a0_4 a0_5 a0_6 a0_7 a0_8 a0_9 a0_10 (fun r => K (F65_r r)) := by kernel_rfl
theorem F65_ev {β : Type} (k : Nat) (a0_0 a0_1 a0_2 a0_3 a0_4 : Int) (a0_5 a0_6 a0_7 a0_8 : Bool) (a0_9 : List (den rng)) (a0_10 : List (den (.int .u8))) (K : A × List (List Leaf) → Option β) : evalF (F65_E k) Try.f65 (F65_a a0_0 a0_1 a0_2 a0_3 a0_4 a0_5 a0_6 a0_7 a0_8 a0_9 a0_10) K = (F65 k a0_0 a0_1 a0_2 a0_3 a0_4 a0_5 a0_6 a0_7 a0_8 a0_9 a0_10).bind fun r => K (F65_r r) := by
  rw [F65_st, F65]
  simp only [F65_T, bind_cond, Option.bind_assoc, Option.bind_some, Option.bind_none, Option.bind_fun_some]
theorem F65_tOk (k : Nat) : TabFn Try.prog (F65_t k) := .ent (F97_q k) F97_f (.ent (F96_q k) F96_f (.ent (F106_q k) F106_f (.ent (F134_q k) F134_f (.none))))
theorem F65_con (k : Nat) (a0_0 a0_1 a0_2 a0_3 a0_4 : Int) (a0_5 a0_6 a0_7 a0_8 : Bool) (a0_9 : List (den rng)) (a0_10 : List (den (.int .u8))) : Contract Try.prog 65 (F65_a a0_0 a0_1 a0_2 a0_3 a0_4 a0_5 a0_6 a0_7 a0_8 a0_9 a0_10) ⟨F65 k a0_0 a0_1 a0_2 a0_3 a0_4 a0_5 a0_6 a0_7 a0_8 a0_9 a0_10, F65_r⟩ := con_of (envOk (F65_tOk k) _ _ _ _) mixed Try.func65 rfl rfl (F65_ev k a0_0 a0_1 a0_2 a0_3 a0_4 a0_5 a0_6 a0_7 a0_8 a0_9 a0_10 some)
def F65_sh : List AK := [.agg [.l (.int .i64), .l (.int .i64), .l (.int .i64), .l (.int .i64), .l (.int .i64), .l (.bool), .l (.bool), .l (.bool), .l (.bool), .l (.sl .ro rng), .l (.sl .ro (.int .u8))]]
def F65_p (k : Nat) : List Arg → Option CR := cle F65_sh fun x => ⟨F65 k x.1.1 x.1.2.1 x.1.2.2.1 x.1.2.2.2.1 x.1.2.2.2.2.1 x.1.2.2.2.2.2.1 x.1.2.2.2.2.2.2.1 x.1.2.2.2.2.2.2.2.1 x.1.2.2.2.2.2.2.2.2.1 x.1.2.2.2.2.2.2.2.2.2.1 x.1.2.2.2.2.2.2.2.2.2.2.1, F65_r⟩
theorem F65_q (k : Nat) : ∀ xs cr, F65_p k xs = some cr → Contract Try.prog 65 xs cr := cle_ok fun x => F65_con k _ _ _ _ _ _ _ _ _ _ _
theorem F65_f : FnOk Try.prog 65 := .of (by kernel_rfl)
/-! 66: slices.Equal[[]loop.example/netstack/impl.Range,loop.example/netstack/impl.Range] -/
def F66_h : Nat → Hint
  | 0 => ⟨[(0, .plain), (1, .plain), (12, .plain), (13, .plain)], []⟩
  | _ => ⟨[], []⟩
abbrev F66_E (k : Nat) : Env := env noTab F66_h .own [] k
abbrev F66_a (a0 a1 : List (den rng)) : List Arg := [.one (.l (.s .ro rng a0)), .one (.l (.s .ro rng a1))]
def F66_r (r : Bool) : A × List (List Leaf) := (.one (.v (.bool r)), [])
def F66_s0 (a0 a1 : List (den rng)) (x13_0 : Int) : St := ⟨(.one (.s .ro rng a0)) :: (.one (.s .ro rng a1)) :: dz 10 ((.one (.v (.int .i64 ((a0.length : Nat) : Int)))) :: (.one (.v (.int .i64 x13_0))) :: dz 12 []), []⟩
def F66_l0_T {β : Type} (k : Nat) (a0 a1 : List (den rng)) (NX : Int → Option β) (RET : Bool → Option β) (x13_0 : Int) : Option β := cond (decide (x13_0 < ((a0.length : Nat) : Int))) (cond (decide (0 ≤ x13_0)) (cond (decide (x13_0 < ((a0.length : Nat) : Int))) (cond (decide (0 ≤ x13_0)) (cond (decide (x13_0 < ((a1.length : Nat) : Int))) (cond (!(eqD rng (atI a0 x13_0) (atI a1 x13_0))) (RET false) (NX (IntKind.i64.wrap (x13_0 + 1)))) none) none) none) none) (RET true)
def F66_l0 (k : Nat) (a0 a1 : List (den rng)) : Nat → Int → Option (Bool)
  | 0, _ => none
  | n + 1, x13_0 => F66_l0_T k a0 a1 (fun x13_0 => F66_l0 k a0 a1 n x13_0) some x13_0
theorem F66_l0_rd {β : Type} (k n : Nat) (a0 a1 : List (den rng)) (x13_0 : Int) (K : A × List (List Leaf) → Option β) :
    loopG (F66_E k) Try.f66 [1, 1, 0, 1, 0] 0 (kontAt (F66_E k) [1, 1, 0, 1, 0] (bodyOf Try.f66) 0 (endC (F66_E k) Try.f66 (F66_a a0 a1) K)) (n + 1) (F66_s0 a0 a1 x13_0) =
    F66_l0_T k a0 a1 (fun x13_0 => loopG (F66_E k) Try.f66 [1, 1, 0, 1, 0] 0 (kontAt (F66_E k) [1, 1, 0, 1, 0] (bodyOf Try.f66) 0 (endC (F66_E k) Try.f66 (F66_a a0 a1) K)) n (F66_s0 a0 a1 x13_0)) (fun r => K (F66_r r)) x13_0 := by kernel_rfl
theorem F66_l0_lp {β : Type} (k : Nat) (a0 a1 : List (den rng)) (K : A × List (List Leaf) → Option β) (n : Nat) : ∀ (x13_0 : Int), loopG (F66_E k) Try.f66 [1, 1, 0, 1, 0] 0 (kontAt (F66_E k) [1, 1, 0, 1, 0] (bodyOf Try.f66) 0 (endC (F66_E k) Try.f66 (F66_a a0 a1) K)) n (F66_s0 a0 a1 x13_0) =
    (F66_l0 k a0 a1 n x13_0).bind fun r => K (F66_r r) := by
  induction n with
  | zero => intros; rfl
  | succ n ih =>
    intros
    rw [F66_l0_rd, F66_l0]
    simp only [F66_l0_T, bind_cond, Option.bind_assoc, Option.bind_some, Option.bind_none, Option.bind_fun_some, ih]
def F66_T {β : Type} (k : Nat) (a0 a1 : List (den rng)) (LP0 : Int → Option β) (RET : Bool → Option β) : Option β := cond (((a0.length : Nat) : Int) != ((a1.length : Nat) : Int)) (RET false) (LP0 0)
def F66 (k : Nat) (a0 a1 : List (den rng)) : Option (Bool) := F66_T k a0 a1 (fun x13_0 => F66_l0 k a0 a1 k x13_0) some
theorem F66_st {β : Type} (k : Nat) (a0 a1 : List (den rng)) (K : A × List (List Leaf) → Option β) : evalF (F66_E k) Try.f66 (F66_a a0 a1) K =
    F66_T k a0 a1 (fun x13_0 => loopG (F66_E k) Try.f66 [1, 1, 0, 1, 0] 0 (kontAt (F66_E k) [1, 1, 0, 1, 0] (bodyOf Try.f66) 0 (endC (F66_E k) Try.f66 (F66_a a0 a1) K)) k (F66_s0 a0 a1 x13_0)) (fun r => K (F66_r r)) := by kernel_rfl
theorem F66_ev {β : Type} (k : Nat) (a0 a1 : List (den rng)) (K : A × List (List Leaf) → Option β) : evalF (F66_E k) Try.f66 (F66_a a0 a1) K = (F66 k a0 a1).bind fun r => K (F66_r r) := by
  rw [F66_st, F66]
  simp only [F66_T, bind_cond, Option.bind_assoc, Option.bind_some, Option.bind_none, Option.bind_fun_some, F66_l0_lp]
theorem F66_con (k : Nat) (a0 a1 : List (den rng)) : Contract Try.prog 66 (F66_a a0 a1) ⟨F66 k a0 a1, F66_r⟩ := con_of (envOk .none _ _ _ _) mixed Try.func66 rfl rfl (F66_ev k a0 a1 some)
def F66_sh : List AK := [.one (.l (.sl .ro rng)), .one (.l (.sl .ro rng))]
def F66_p (k : Nat) : List Arg → Option CR := cle F66_sh fun x => ⟨F66 k x.1 x.2.1, F66_r⟩
theorem F66_q (k : Nat) : ∀ xs cr, F66_p k xs = some cr → Contract Try.prog 66 xs cr := cle_ok fun x => F66_con k _ _
theorem F66_f : FnOk Try.prog 66 := .of (by kernel_rfl)
/-! 130: loop.example/netstack/impl.bit -/
abbrev F130_E (k : Nat) : Env := env noTab noHint .own [] k
abbrev F130_a (a0 : Bool) (a1 : Int) : List Arg := [.one (.l (.v (.bool a0))), .one (.l (.v (.int .i64 a1)))]
def F130_r (r : Int) : A × List (List Leaf) := (.one (.v (.int .i64 r)), [])
def F130 (k : Nat) (a0 : Bool) (a1 : Int) : Option (Int) := cond a0 (some a1) (some 0)
theorem F130_st {β : Type} (k : Nat) (a0 : Bool) (a1 : Int) (K : A × List (List Leaf) → Option β) : evalF (F130_E k) Try.f130 (F130_a a0 a1) K =
    cond a0 (K (.one (.v (.int .i64 a1)), [])) (K (.one (.v (.int .i64 0)), [])) := by kernel_rfl
theorem F130_ev {β : Type} (k : Nat) (a0 : Bool) (a1 : Int) (K : A × List (List Leaf) → Option β) : evalF (F130_E k) Try.f130 (F130_a a0 a1) K = (F130 k a0 a1).bind fun r => K (F130_r r) := by
  rw [F130_st, F130]
  simp only [F130_r, bind_cond, Option.bind_assoc, Option.bind_some, Option.bind_none, Option.bind_fun_some]
theorem F130_con (k : Nat) (a0 : Bool) (a1 : Int) : Contract Try.prog 130 (F130_a a0 a1) ⟨F130 k a0 a1, F130_r⟩ := con_of (envOk .none _ _ _ _) mixed Try.func130 rfl rfl (F130_ev k a0 a1 some)
def F130_sh : List AK := [.one (.l (.bool)), .one (.l (.int .i64))]
def F130_p (k : Nat) : List Arg → Option CR := cle F130_sh fun x => ⟨F130 k x.1 x.2.1, F130_r⟩
theorem F130_q (k : Nat) : ∀ xs cr, F130_p k xs = some cr → Contract Try.prog 130 xs cr := cle_ok fun x => F130_con k _ _
theorem F130_f : FnOk Try.prog 130 := .of (by kernel_rfl)
/-! 49: loop.example/netstack/impl.SegmentLong -/
def F49_t (k : Nat) : Tab := entT 130 (F130_p k) <| noTab
abbrev F49_E (k : Nat) : Env := env (F49_t k) noHint .own [] k
abbrev F49_a (a0_0 a0_1 a0_2 a0_3 a0_4 : Int) (a0_5 a0_6 a0_7 a0_8 : Bool) (a0_9 : List (den rng)) (a0_10 : List (den (.int .u8))) : List Arg := [.agg [.l (.v (.int .i64 a0_0)), .l (.v (.int .i64 a0_1)), .l (.v (.int .i64 a0_2)), .l (.v (.int .i64 a0_3)), .l (.v (.int .i64 a0_4)), .l (.v (.bool a0_5)), .l (.v (.bool a0_6)), .l (.v (.bool a0_7)), .l (.v (.bool a0_8)), .l (.s .ro rng a0_9), .l (.s .ro (.int .u8) a0_10)]]
def F49_r (r : Int) : A × List (List Leaf) := (.one (.v (.int .i64 r)), [])
def F49_T {β : Type} (k : Nat) (a0_0 a0_1 a0_2 a0_3 a0_4 : Int) (a0_5 a0_6 a0_7 a0_8 : Bool) (a0_9 : List (den rng)) (a0_10 : List (den (.int .u8))) (RET : Int → Option β) : Option β := (F130 k a0_5 1).bind fun b1 => (F130 k a0_7 1).bind fun b2 => RET (IntKind.i64.wrap ((IntKind.i64.wrap (((a0_10.length : Nat) : Int) + b1)) + b2))
def F49 (k : Nat) (a0_0 a0_1 a0_2 a0_3 a0_4 : Int) (a0_5 a0_6 a0_7 a0_8 : Bool) (a0_9 : List (den rng)) (a0_10 : List (den (.int .u8))) : Option (Int) := F49_T k a0_0 a0_1 a0_2 a0_3 a0_4 a0_5 a0_6 a0_7 a0_8 a0_9 a0_10 some
theorem F49_st {β : Type} (k : Nat) (a0_0 a0_1 a0_2 a0_3 a0_4 : Int) (a0_5 a0_6 a0_7 a0_8 : Bool) (a0_9 : List (den rng)) (a0_10 : List (den (.int .u8))) (K : A × List (List Leaf) → Option β) : evalF (F49_E k) Try.f49 (F49_a a0_0 a0_1 a0_2 a0_3 a0_4 a0_5 a0_6 a0_7 a0_8 a0_9 a0_10) K =
    F49_T k a0_0 a0_1 a0_2 a0_3 a0_4 a0_5 a0_6 a0_7 a0_8 a0_9 a0_10 (fun r => K (F49_r r)) := by kernel_rfl
theorem F49_ev {β : Type} (k : Nat) (a0_0 a0_1 a0_2 a0_3 a0_4 : Int) (a0_5 a0_6 a0_7 a0_8 : Bool) (a0_9 : List (den rng)) (a0_10 : List (den (.int .u8))) (K : A × List (List Leaf) → Option β) : evalF (F49_E k) Try.f49 (F49_a a0_0 a0_1 a0_2 a0_3 a0_4 a0_5 a0_6 a0_7 a0_8 a0_9 a0_10) K = (F49 k a0_0 a0_1 a0_2 a0_3 a0_4 a0_5 a0_6 a0_7 a0_8 a0_9 a0_10).bind fun r => K (F49_r r) := by
  rw [F49_st, F49]
  simp only [F49_T, bind_cond, Option.bind_assoc, Option.bind_some, Option.bind_none, Option.bind_fun_some]
theorem F49_tOk (k : Nat) : TabFn Try.prog (F49_t k) := .ent (F130_q k) F130_f (.none)
theorem F49_con (k : Nat) (a0_0 a0_1 a0_2 a0_3 a0_4 : Int) (a0_5 a0_6 a0_7 a0_8 : Bool) (a0_9 : List (den rng)) (a0_10 : List (den (.int .u8))) : Contract Try.prog 49 (F49_a a0_0 a0_1 a0_2 a0_3 a0_4 a0_5 a0_6 a0_7 a0_8 a0_9 a0_10) ⟨F49 k a0_0 a0_1 a0_2 a0_3 a0_4 a0_5 a0_6 a0_7 a0_8 a0_9 a0_10, F49_r⟩ := con_of (envOk (F49_tOk k) _ _ _ _) mixed Try.func49 rfl rfl (F49_ev k a0_0 a0_1 a0_2 a0_3 a0_4 a0_5 a0_6 a0_7 a0_8 a0_9 a0_10 some)
def F49_sh : List AK := [.agg [.l (.int .i64), .l (.int .i64), .l (.int .i64), .l (.int .i64), .l (.int .i64), .l (.bool), .l (.bool), .l (.bool), .l (.bool), .l (.sl .ro rng), .l (.sl .ro (.int .u8))]]
def F49_p (k : Nat) : List Arg → Option CR := cle F49_sh fun x => ⟨F49 k x.1.1 x.1.2.1 x.1.2.2.1 x.1.2.2.2.1 x.1.2.2.2.2.1 x.1.2.2.2.2.2.1 x.1.2.2.2.2.2.2.1 x.1.2.2.2.2.2.2.2.1 x.1.2.2.2.2.2.2.2.2.1 x.1.2.2.2.2.2.2.2.2.2.1 x.1.2.2.2.2.2.2.2.2.2.2.1, F49_r⟩
theorem F49_q (k : Nat) : ∀ xs cr, F49_p k xs = some cr → Contract Try.prog 49 xs cr := cle_ok fun x => F49_con k _ _ _ _ _ _ _ _ _ _ _
theorem F49_f : FnOk Try.prog 49 := .of (by kernel_rfl)
/-! 67: loop.example/netstack/impl.SeqOf -/
abbrev F67_E (k : Nat) : Env := env noTab noHint .own [] k
abbrev F67_a (a0 : Int) : List Arg := [.one (.l (.v (.int .i64 a0)))]
def F67_r (r : Int) : A × List (List Leaf) := (.one (.v (.int .i64 r)), [])
def F67 (k : Nat) (a0 : Int) : Option (Int) := some ((IntKind.i64.wrap ((a0.tmod 65536) + 65536)).tmod 65536)
theorem F67_st {β : Type} (k : Nat) (a0 : Int) (K : A × List (List Leaf) → Option β) : evalF (F67_E k) Try.f67 (F67_a a0) K =
    K (.one (.v (.int .i64 ((IntKind.i64.wrap ((a0.tmod 65536) + 65536)).tmod 65536))), []) := by kernel_rfl
theorem F67_ev {β : Type} (k : Nat) (a0 : Int) (K : A × List (List Leaf) → Option β) : evalF (F67_E k) Try.f67 (F67_a a0) K = (F67 k a0).bind fun r => K (F67_r r) := by
  rw [F67_st, F67]
  simp only [F67_r, bind_cond, Option.bind_assoc, Option.bind_some, Option.bind_none, Option.bind_fun_some]
theorem F67_con (k : Nat) (a0 : Int) : Contract Try.prog 67 (F67_a a0) ⟨F67 k a0, F67_r⟩ := con_of (envOk .none _ _ _ _) mixed Try.func67 rfl rfl (F67_ev k a0 some)
def F67_sh : List AK := [.one (.l (.int .i64))]
def F67_p (k : Nat) : List Arg → Option CR := cle F67_sh fun x => ⟨F67 k x.1, F67_r⟩
theorem F67_q (k : Nat) : ∀ xs cr, F67_p k xs = some cr → Contract Try.prog 67 xs cr := cle_ok fun x => F67_con k _
theorem F67_f : FnOk Try.prog 67 := .of (by kernel_rfl)
/-! 167: slices.Clip[[]loop.example/netstack/impl.Range,loop.example/netstack/impl.Range] -/
abbrev F167_E (k : Nat) : Env := env noTab noHint .own [] k
abbrev F167_a (a0 : List (den rng)) : List Arg := [.one (.l (.s .own rng a0))]
def F167_r (r : List (den rng)) : A × List (List Leaf) := (.one (.s .own rng r), [])
def F167_T {β : Type} (k : Nat) (a0 : List (den rng)) (RET : List (den rng) → Option β) : Option β := cond (decide (0 ≤ ((a0.length : Nat) : Int)) && decide (((a0.length : Nat) : Int) ≤ ((a0.length : Nat) : Int))) (cond (decide (((a0.length : Nat) : Int) = ((a0.length : Nat) : Int))) (RET ((a0.take (((a0.length : Nat) : Int).toNat)).drop 0)) none) none
def F167 (k : Nat) (a0 : List (den rng)) : Option (List (den rng)) := F167_T k a0 some
theorem F167_st {β : Type} (k : Nat) (a0 : List (den rng)) (K : A × List (List Leaf) → Option β) : evalF (F167_E k) Try.f167 (F167_a a0) K =
    F167_T k a0 (fun r => K (F167_r r)) := by kernel_rfl
theorem F167_ev {β : Type} (k : Nat) (a0 : List (den rng)) (K : A × List (List Leaf) → Option β) : evalF (F167_E k) Try.f167 (F167_a a0) K = (F167 k a0).bind fun r => K (F167_r r) := by
  rw [F167_st, F167]
  simp only [F167_T, bind_cond, Option.bind_assoc, Option.bind_some, Option.bind_none, Option.bind_fun_some]
theorem F167_con (k : Nat) (a0 : List (den rng)) : Contract Try.prog 167 (F167_a a0) ⟨F167 k a0, F167_r⟩ := con_of (envOk .none _ _ _ _) mixed Try.func167 rfl rfl (F167_ev k a0 some)
def F167_sh : List AK := [.one (.l (.sl .own rng))]
def F167_p (k : Nat) : List Arg → Option CR := cle F167_sh fun x => ⟨F167 k x.1, F167_r⟩
theorem F167_q (k : Nat) : ∀ xs cr, F167_p k xs = some cr → Contract Try.prog 167 xs cr := cle_ok fun x => F167_con k _
theorem F167_f : FnOk Try.prog 167 := .of (by kernel_rfl)
/-! 136: loop.example/netstack/impl.clone[loop.example/netstack/impl.Range] -/
def F136_t (k : Nat) : Tab := entT 167 (F167_p k) <| noTab
abbrev F136_E (k : Nat) : Env := env (F136_t k) noHint .own [] k
abbrev F136_a (a0 : List (den rng)) : List Arg := [.one (.l (.s .ro rng a0))]
def F136_r (r : List (den rng)) : A × List (List Leaf) := (.one (.s .own rng r), [])
def F136_T {β : Type} (k : Nat) (a0 : List (den rng)) (RET : List (den rng) → Option β) : Option β := cond (((a0.length : Nat) : Int) == 0) (RET []) (cond (decide ((([] : List (den rng)).length + a0.length) * 16 ≤ 140737488355328)) ((F167 k ([] ++ a0)).bind fun b1 => RET b1) none)
def F136 (k : Nat) (a0 : List (den rng)) : Option (List (den rng)) := F136_T k a0 some
theorem F136_st {β : Type} (k : Nat) (a0 : List (den rng)) (K : A × List (List Leaf) → Option β) : evalF (F136_E k) Try.f136 (F136_a a0) K =
    F136_T k a0 (fun r => K (F136_r r)) := by kernel_rfl
theorem F136_ev {β : Type} (k : Nat) (a0 : List (den rng)) (K : A × List (List Leaf) → Option β) : evalF (F136_E k) Try.f136 (F136_a a0) K = (F136 k a0).bind fun r => K (F136_r r) := by
  rw [F136_st, F136]
  simp only [F136_T, bind_cond, Option.bind_assoc, Option.bind_some, Option.bind_none, Option.bind_fun_some]
theorem F136_tOk (k : Nat) : TabFn Try.prog (F136_t k) := .ent (F167_q k) F167_f (.none)
theorem F136_con (k : Nat) (a0 : List (den rng)) : Contract Try.prog 136 (F136_a a0) ⟨F136 k a0, F136_r⟩ := con_of (envOk (F136_tOk k) _ _ _ _) mixed Try.func136 rfl rfl (F136_ev k a0 some)
def F136_sh : List AK := [.one (.l (.sl .ro rng))]
def F136_p (k : Nat) : List Arg → Option CR := cle F136_sh fun x => ⟨F136 k x.1, F136_r⟩
theorem F136_q (k : Nat) : ∀ xs cr, F136_p k xs = some cr → Contract Try.prog 136 xs cr := cle_ok fun x => F136_con k _
theorem F136_f : FnOk Try.prog 136 := .of (by kernel_rfl)
/-! 168: slices.Clip[[]byte,byte] -/
abbrev F168_E (k : Nat) : Env := env noTab noHint .own [] k
abbrev F168_a (a0 : List (den (.int .u8))) : List Arg := [.one (.l (.s .own (.int .u8) a0))]
def F168_r (r : List (den (.int .u8))) : A × List (List Leaf) := (.one (.s .own (.int .u8) r), [])
def F168_T {β : Type} (k : Nat) (a0 : List (den (.int .u8))) (RET : List (den (.int .u8)) → Option β) : Option β := cond (decide (0 ≤ ((a0.length : Nat) : Int)) && decide (((a0.length : Nat) : Int) ≤ ((a0.length : Nat) : Int))) (cond (decide (((a0.length : Nat) : Int) = ((a0.length : Nat) : Int))) (RET ((a0.take (((a0.length : Nat) : Int).toNat)).drop 0)) none) none
def F168 (k : Nat) (a0 : List (den (.int .u8))) : Option (List (den (.int .u8))) := F168_T k a0 some
theorem F168_st {β : Type} (k : Nat) (a0 : List (den (.int .u8))) (K : A × List (List Leaf) → Option β) : evalF (F168_E k) Try.f168 (F168_a a0) K =
    F168_T k a0 (fun r => K (F168_r r)) := by kernel_rfl
theorem F168_ev {β : Type} (k : Nat) (a0 : List (den (.int .u8))) (K : A × List (List Leaf) → Option β) : evalF (F168_E k) Try.f168 (F168_a a0) K = (F168 k a0).bind fun r => K (F168_r r) := by
  rw [F168_st, F168]
  simp only [F168_T, bind_cond, Option.bind_assoc, Option.bind_some, Option.bind_none, Option.bind_fun_some]
theorem F168_con (k : Nat) (a0 : List (den (.int .u8))) : Contract Try.prog 168 (F168_a a0) ⟨F168 k a0, F168_r⟩ := con_of (envOk .none _ _ _ _) mixed Try.func168 rfl rfl (F168_ev k a0 some)
def F168_sh : List AK := [.one (.l (.sl .own (.int .u8)))]
def F168_p (k : Nat) : List Arg → Option CR := cle F168_sh fun x => ⟨F168 k x.1, F168_r⟩
theorem F168_q (k : Nat) : ∀ xs cr, F168_p k xs = some cr → Contract Try.prog 168 xs cr := cle_ok fun x => F168_con k _
theorem F168_f : FnOk Try.prog 168 := .of (by kernel_rfl)
/-! 137: loop.example/netstack/impl.clone[byte] -/
def F137_t (k : Nat) : Tab := entT 168 (F168_p k) <| noTab
abbrev F137_E (k : Nat) : Env := env (F137_t k) noHint .own [] k
abbrev F137_a (a0 : List (den (.int .u8))) : List Arg := [.one (.l (.s .ro (.int .u8) a0))]
def F137_r (r : List (den (.int .u8))) : A × List (List Leaf) := (.one (.s .own (.int .u8) r), [])
def F137_T {β : Type} (k : Nat) (a0 : List (den (.int .u8))) (RET : List (den (.int .u8)) → Option β) : Option β := cond (((a0.length : Nat) : Int) == 0) (RET []) (cond (decide ((([] : List (den (.int .u8))).length + a0.length) * 1 ≤ 140737488355328)) ((F168 k ([] ++ a0)).bind fun b1 => RET b1) none)
def F137 (k : Nat) (a0 : List (den (.int .u8))) : Option (List (den (.int .u8))) := F137_T k a0 some
theorem F137_st {β : Type} (k : Nat) (a0 : List (den (.int .u8))) (K : A × List (List Leaf) → Option β) : evalF (F137_E k) Try.f137 (F137_a a0) K =
    F137_T k a0 (fun r => K (F137_r r)) := by kernel_rfl
theorem F137_ev {β : Type} (k : Nat) (a0 : List (den (.int .u8))) (K : A × List (List Leaf) → Option β) : evalF (F137_E k) Try.f137 (F137_a a0) K = (F137 k a0).bind fun r => K (F137_r r) := by
  rw [F137_st, F137]
  simp only [F137_T, bind_cond, Option.bind_assoc, Option.bind_some, Option.bind_none, Option.bind_fun_some]
theorem F137_tOk (k : Nat) : TabFn Try.prog (F137_t k) := .ent (F168_q k) F168_f (.none)
theorem F137_con (k : Nat) (a0 : List (den (.int .u8))) : Contract Try.prog 137 (F137_a a0) ⟨F137 k a0, F137_r⟩ := con_of (envOk (F137_tOk k) _ _ _ _) mixed Try.func137 rfl rfl (F137_ev k a0 some)
def F137_sh : List AK := [.one (.l (.sl .ro (.int .u8)))]
def F137_p (k : Nat) : List Arg → Option CR := cle F137_sh fun x => ⟨F137 k x.1, F137_r⟩
theorem F137_q (k : Nat) : ∀ xs cr, F137_p k xs = some cr → Contract Try.prog 137 xs cr := cle_ok fun x => F137_con k _
theorem F137_f : FnOk Try.prog 137 := .of (by kernel_rfl)
/-! 68: (loop.example/netstack/impl.Segment).copy -/
def F68_t (k : Nat) : Tab := entT 136 (F136_p k) <| entT 137 (F137_p k) <| noTab
abbrev F68_E (k : Nat) : Env := env (F68_t k) noHint .own [] k
abbrev F68_a (a0_0 a0_1 a0_2 a0_3 a0_4 : Int) (a0_5 a0_6 a0_7 a0_8 : Bool) (a0_9 : List (den rng)) (a0_10 : List (den (.int .u8))) : List Arg := [.agg [.l (.v (.int .i64 a0_0)), .l (.v (.int .i64 a0_1)), .l (.v (.int .i64 a0_2)), .l (.v (.int .i64 a0_3)), .l (.v (.int .i64 a0_4)), .l (.v (.bool a0_5)), .l (.v (.bool a0_6)), .l (.v (.bool a0_7)), .l (.v (.bool a0_8)), .l (.s .ro rng a0_9), .l (.s .ro (.int .u8) a0_10)]]
def F68_r (r : Int × Int × Int × Int × Int × Bool × Bool × Bool × Bool × List (den rng) × List (den (.int .u8))) : A × List (List Leaf) := (.agg [.v (.int .i64 r.1), .v (.int .i64 r.2.1), .v (.int .i64 r.2.2.1), .v (.int .i64 r.2.2.2.1), .v (.int .i64 r.2.2.2.2.1), .v (.bool r.2.2.2.2.2.1), .v (.bool r.2.2.2.2.2.2.1), .v (.bool r.2.2.2.2.2.2.2.1), .v (.bool r.2.2.2.2.2.2.2.2.1), .s .own rng r.2.2.2.2.2.2.2.2.2.1, .s .own (.int .u8) r.2.2.2.2.2.2.2.2.2.2], [])
def F68_T {β : Type} (k : Nat) (a0_0 a0_1 a0_2 a0_3 a0_4 : Int) (a0_5 a0_6 a0_7 a0_8 : Bool) (a0_9 : List (den rng)) (a0_10 : List (den (.int .u8))) (RET : (Int × Int × Int × Int × Int × Bool × Bool × Bool × Bool × List (den rng) × List (den (.int .u8))) → Option β) : Option β := (F136 k a0_9).bind fun b1 => (F137 k a0_10).bind fun b2 => RET (a0_0, a0_1, a0_2, a0_3, a0_4, a0_5, a0_6, a0_7, a0_8, b1, b2)
def F68 (k : Nat) (a0_0 a0_1 a0_2 a0_3 a0_4 : Int) (a0_5 a0_6 a0_7 a0_8 : Bool) (a0_9 : List (den rng)) (a0_10 : List (den (.int .u8))) : Option (Int × Int × Int × Int × Int × Bool × Bool × Bool × Bool × List (den rng) × List (den (.int .u8))) := F68_T k a0_0 a0_1 a0_2 a0_3 a0_4 a0_5 a0_6 a0_7 a0_8 a0_9 a0_10 some
theorem F68_st {β : Type} (k : Nat) (a0_0 a0_1 a0_2 a0_3 a0_4 : Int) (a0_5 a0_6 a0_7 a0_8 : Bool) (a0_9 : List (den rng)) (a0_10 : List (den (.int .u8))) (K : A × List (List Leaf) → Option β) : evalF (F68_E k) Try.f68 (F68_a a0_0 a0_1 a0_2 a0_3 a0_4 a0_5 a0_6 a0_7 a0_8 a0_9 a0_10) K =
    F68_T k a0_0 a0_1 a0_2 a0_3 a0_4 a0_5 a0_6 a0_7 a0_8 a0_9 a0_10 (fun r => K (F68_r r)) := by kernel_rfl
theorem F68_ev {β : Type} (k : Nat) (a0_0 a0_1 a0_2 a0_3 a0_4 : Int) (a0_5 a0_6 a0_7 a0_8 : Bool) (a0_9 : List (den rng)) (a0_10 : List (den (.int .u8))) (K : A × List (List Leaf) → Option β) : evalF (F68_E k) Try.f68 (F68_a a0_0 a0_1 a0_2 a0_3 a0_4 a0_5 a0_6 a0_7 a0_8 a0_9 a0_10) K = (F68 k a0_0 a0_1 a0_2 a0_3 a0_4 a0_5 a0_6 a0_7 a0_8 a0_9 a0_10).bind fun r => K (F68_r r) := by
  rw [F68_st, F68]
  simp only [F68_T, bind_cond, Option.bind_assoc, Option.bind_some, Option.bind_none, Option.bind_fun_some]
theorem F68_tOk (k : Nat) : TabFn Try.prog (F68_t k) := .ent (F136_q k) F136_f (.ent (F137_q k) F137_f (.none))
theorem F68_con (k : Nat) (a0_0 a0_1 a0_2 a0_3 a0_4 : Int) (a0_5 a0_6 a0_7 a0_8 : Bool) (a0_9 : List (den rng)) (a0_10 : List (den (.int .u8))) : Contract Try.prog 68 (F68_a a0_0 a0_1 a0_2 a0_3 a0_4 a0_5 a0_6 a0_7 a0_8 a0_9 a0_10) ⟨F68 k a0_0 a0_1 a0_2 a0_3 a0_4 a0_5 a0_6 a0_7 a0_8 a0_9 a0_10, F68_r⟩ := con_of (envOk (F68_tOk k) _ _ _ _) mixed Try.func68 rfl rfl (F68_ev k a0_0 a0_1 a0_2 a0_3 a0_4 a0_5 a0_6 a0_7 a0_8 a0_9 a0_10 some)
def F68_sh : List AK := [.agg [.l (.int .i64), .l (.int .i64), .l (.int .i64), .l (.int .i64), .l (.int .i64), .l (.bool), .l (.bool), .l (.bool), .l (.bool), .l (.sl .ro rng), .l (.sl .ro (.int .u8))]]
def F68_p (k : Nat) : List Arg → Option CR := cle F68_sh fun x => ⟨F68 k x.1.1 x.1.2.1 x.1.2.2.1 x.1.2.2.2.1 x.1.2.2.2.2.1 x.1.2.2.2.2.2.1 x.1.2.2.2.2.2.2.1 x.1.2.2.2.2.2.2.2.1 x.1.2.2.2.2.2.2.2.2.1 x.1.2.2.2.2.2.2.2.2.2.1 x.1.2.2.2.2.2.2.2.2.2.2.1, F68_r⟩
theorem F68_q (k : Nat) : ∀ xs cr, F68_p k xs = some cr → Contract Try.prog 68 xs cr := cle_ok fun x => F68_con k _ _ _ _ _ _ _ _ _ _ _
theorem F68_f : FnOk Try.prog 68 := .of (by kernel_rfl)
/-! 138: slices.Grow[[]byte,byte] -/
abbrev F138_E (k : Nat) : Env := env noTab noHint .own [] k
abbrev F138_a (a1 : Int) : List Arg := [.one (.l (.v (.slice none 0 0))), .one (.l (.v (.int .i64 a1)))]
def F138_r (r : List (den (.int .u8))) : A × List (List Leaf) := (.one (.s .own (.int .u8) r), [])
def F138_T {β : Type} (k : Nat) (a1 : Int) (RET : List (den (.int .u8)) → Option β) : Option β := cond (decide (a1 < 0)) none (cond (decide ((IntKind.i64.wrap (a1 - 0)) > 0)) (cond (decide (0 ≤ 0) && decide (0 ≤ ((0 : Nat) : Int))) (cond (decide (0 < (IntKind.i64.wrap (a1 - 0))) && decide ((IntKind.i64.wrap (a1 - 0)) * (1 : Nat) ≤ 140737488355328)) (cond (decide (0 ≤ 0) && decide (0 ≤ (((List.replicate ((IntKind.i64.wrap (a1 - 0)).toNat) (dflt (.int .u8))).length : Nat) : Int))) (RET (((List.replicate ((IntKind.i64.wrap (a1 - 0)).toNat) (dflt (.int .u8))).take 0).drop 0)) none) none) none) (RET []))
def F138 (k : Nat) (a1 : Int) : Option (List (den (.int .u8))) := F138_T k a1 some
theorem F138_st {β : Type} (k : Nat) (a1 : Int) (K : A × List (List Leaf) → Option β) : evalF (F138_E k) Try.f138 (F138_a a1) K =
    F138_T k a1 (fun r => K (F138_r r)) := by kernel_rfl
theorem F138_ev {β : Type} (k : Nat) (a1 : Int) (K : A × List (List Leaf) → Option β) : evalF (F138_E k) Try.f138 (F138_a a1) K = (F138 k a1).bind fun r => K (F138_r r) := by
  rw [F138_st, F138]
  simp only [F138_T, bind_cond, Option.bind_assoc, Option.bind_some, Option.bind_none, Option.bind_fun_some]
theorem F138_con (k : Nat) (a1 : Int) : Contract Try.prog 138 (F138_a a1) ⟨F138 k a1, F138_r⟩ := con_of (envOk .none _ _ _ _) mixed Try.func138 rfl rfl (F138_ev k a1 some)
def F138_sh : List AK := [.one (.l (.nil)), .one (.l (.int .i64))]
def F138_p (k : Nat) : List Arg → Option CR := cle F138_sh fun x => ⟨F138 k x.2.1, F138_r⟩
theorem F138_q (k : Nat) : ∀ xs cr, F138_p k xs = some cr → Contract Try.prog 138 xs cr := cle_ok fun x => F138_con k _
theorem F138_f : FnOk Try.prog 138 := .of (by kernel_rfl)
/-! 69: slices.Concat[[]byte,byte] -/
def F69_h : Nat → Hint
  | 0 => ⟨[(0, .plain), (3, .plain), (9, .plain), (10, .plain), (11, .plain)], []⟩
  | 2 => ⟨[(6, .own .own (.int .u8) []), (25, .plain), (26, .plain), (27, .plain)], []⟩
  | _ => ⟨[], []⟩
def F69_t (k : Nat) : Tab := entT 138 (F138_p k) <| noTab
abbrev F69_E (k : Nat) : Env := env (F69_t k) F69_h .own [] k
abbrev F69_a (a0 : List (den (.sl (.int .u8)))) : List Arg := [.one (.l (.s .ro (.sl (.int .u8)) a0))]
def F69_r (r : List (den (.int .u8))) : A × List (List Leaf) := (.one (.s .own (.int .u8) r), [])
def F69_s2 (a0 : List (den (.sl (.int .u8)))) (x27_2 : Int) (m6900_2 : List (den (.int .u8))) : St := ⟨dz 6 ((.one (.a (.cell 6900) 0 0 none)) :: dz 18 ((.one (.s .ro (.sl (.int .u8)) a0)) :: (.one (.v (.int .i64 ((a0.length : Nat) : Int)))) :: (.one (.v (.int .i64 x27_2))) :: dz 8 [])), [(6900, ⟨.s .own (.int .u8) m6900_2, 0, 0⟩)]⟩
def F69_l2_T {β : Type} (k : Nat) (a0 : List (den (.sl (.int .u8)))) (NX : Int → List (den (.int .u8)) → Option β) (RET : List (den (.int .u8)) → Option β) (x27_2 : Int) (m6900_2 : List (den (.int .u8))) : Option β := cond (decide (x27_2 < ((a0.length : Nat) : Int))) (cond (decide (0 ≤ x27_2)) (cond (decide (x27_2 < ((a0.length : Nat) : Int))) (cond (decide ((m6900_2.length + (atI a0 x27_2).length) * 1 ≤ 140737488355328)) (NX (IntKind.i64.wrap (x27_2 + 1)) (m6900_2 ++ (atI a0 x27_2))) none) none) none) (RET m6900_2)
def F69_l2 (k : Nat) (a0 : List (den (.sl (.int .u8)))) : Nat → Int → List (den (.int .u8)) → Option (List (den (.int .u8)))
  | 0, _, _ => none
  | n + 1, x27_2, m6900_2 => F69_l2_T k a0 (fun x27_2 m6900_2 => F69_l2 k a0 n x27_2 m6900_2) some x27_2 m6900_2
theorem F69_l2_rd {β : Type} (k n : Nat) (a0 : List (den (.sl (.int .u8)))) (x27_2 : Int) (m6900_2 : List (den (.int .u8))) (K : A × List (List Leaf) → Option β) :
    loopG (F69_E k) Try.f69 [1, 1, 1, 1, 0, 1, 0] 2 (kontAt (F69_E k) [1, 1, 1, 1, 0, 1, 0] (bodyOf Try.f69) 0 (endC (F69_E k) Try.f69 (F69_a a0) K)) (n + 1) (F69_s2 a0 x27_2 m6900_2) =
    F69_l2_T k a0 (fun x27_2 m6900_2 => loopG (F69_E k) Try.f69 [1, 1, 1, 1, 0, 1, 0] 2 (kontAt (F69_E k) [1, 1, 1, 1, 0, 1, 0] (bodyOf Try.f69) 0 (endC (F69_E k) Try.f69 (F69_a a0) K)) n (F69_s2 a0 x27_2 m6900_2)) (fun r => K (F69_r r)) x27_2 m6900_2 := by kernel_rfl
theorem F69_l2_lp {β : Type} (k : Nat) (a0 : List (den (.sl (.int .u8)))) (K : A × List (List Leaf) → Option β) (n : Nat) : ∀ (x27_2 : Int) (m6900_2 : List (den (.int .u8))), loopG (F69_E k) Try.f69 [1, 1, 1, 1, 0, 1, 0] 2 (kontAt (F69_E k) [1, 1, 1, 1, 0, 1, 0] (bodyOf Try.f69) 0 (endC (F69_E k) Try.f69 (F69_a a0) K)) n (F69_s2 a0 x27_2 m6900_2) =
    (F69_l2 k a0 n x27_2 m6900_2).bind fun r => K (F69_r r) := by
  induction n with
  | zero => intros; rfl
  | succ n ih =>
    intros
    rw [F69_l2_rd, F69_l2]
    simp only [F69_l2_T, bind_cond, Option.bind_assoc, Option.bind_some, Option.bind_none, Option.bind_fun_some, ih]
def F69_s0 (a0 : List (den (.sl (.int .u8)))) (x3_0 x11_0 : Int) : St := ⟨(.one (.s .ro (.sl (.int .u8)) a0)) :: (.one .d) :: (.one .d) :: (.one (.v (.int .i64 x3_0))) :: dz 5 ((.one (.s .ro (.sl (.int .u8)) a0)) :: (.one (.v (.int .i64 ((a0.length : Nat) : Int)))) :: (.one (.v (.int .i64 x11_0))) :: dz 24 []), []⟩
def F69_l0_T {β : Type} (k : Nat) (a0 : List (den (.sl (.int .u8)))) (NX : Int → Int → Option β) (LP2 : Int → List (den (.int .u8)) → Option β) (x3_0 x11_0 : Int) : Option β := cond (decide (x11_0 < ((a0.length : Nat) : Int))) (cond (decide (0 ≤ x11_0)) (cond (decide (x11_0 < ((a0.length : Nat) : Int))) (cond (decide ((IntKind.i64.wrap (x3_0 + (((atI a0 x11_0).length : Nat) : Int))) < 0)) none (NX (IntKind.i64.wrap (x3_0 + (((atI a0 x11_0).length : Nat) : Int))) (IntKind.i64.wrap (x11_0 + 1)))) none) none) ((F138 k x3_0).bind fun b1 => LP2 0 b1)
def F69_l0 (k : Nat) (a0 : List (den (.sl (.int .u8)))) : Nat → Int → Int → Option (List (den (.int .u8)))
  | 0, _, _ => none
  | n + 1, x3_0, x11_0 => F69_l0_T k a0 (fun x3_0 x11_0 => F69_l0 k a0 n x3_0 x11_0) (fun x27_2 m6900_2 => F69_l2 k a0 k x27_2 m6900_2) x3_0 x11_0
theorem F69_l0_rd {β : Type} (k n : Nat) (a0 : List (den (.sl (.int .u8)))) (x3_0 x11_0 : Int) (K : A × List (List Leaf) → Option β) :
    loopG (F69_E k) Try.f69 [1, 1, 0, 1, 0] 0 (kontAt (F69_E k) [1, 1, 0, 1, 0] (bodyOf Try.f69) 0 (endC (F69_E k) Try.f69 (F69_a a0) K)) (n + 1) (F69_s0 a0 x3_0 x11_0) =
    F69_l0_T k a0 (fun x3_0 x11_0 => loopG (F69_E k) Try.f69 [1, 1, 0, 1, 0] 0 (kontAt (F69_E k) [1, 1, 0, 1, 0] (bodyOf Try.f69) 0 (endC (F69_E k) Try.f69 (F69_a a0) K)) n (F69_s0 a0 x3_0 x11_0)) (fun x27_2 m6900_2 => loopG (F69_E k) Try.f69 [1, 1, 1, 1, 0, 1, 0] 2 (kontAt (F69_E k) [1, 1, 1, 1, 0, 1, 0] (bodyOf Try.f69) 0 (endC (F69_E k) Try.f69 (F69_a a0) K)) k (F69_s2 a0 x27_2 m6900_2)) x3_0 x11_0 := by kernel_rfl
theorem F69_l0_lp {β : Type} (k : Nat) (a0 : List (den (.sl (.int .u8)))) (K : A × List (List Leaf) → Option β) (n : Nat) : ∀ (x3_0 x11_0 : Int), loopG (F69_E k) Try.f69 [1, 1, 0, 1, 0] 0 (kontAt (F69_E k) [1, 1, 0, 1, 0] (bodyOf Try.f69) 0 (endC (F69_E k) Try.f69 (F69_a a0) K)) n (F69_s0 a0 x3_0 x11_0) =
    (F69_l0 k a0 n x3_0 x11_0).bind fun r => K (F69_r r) := by
  induction n with
  | zero => intros; rfl
  | succ n ih =>
    intros
    rw [F69_l0_rd, F69_l0]
    simp only [F69_l0_T, bind_cond, Option.bind_assoc, Option.bind_some, Option.bind_none, Option.bind_fun_some, F69_l2_lp, ih]
def F69_T {β : Type} (k : Nat) (a0 : List (den (.sl (.int .u8)))) (LP0 : Int → Int → Option β) : Option β := LP0 0 0
def F69 (k : Nat) (a0 : List (den (.sl (.int .u8)))) : Option (List (den (.int .u8))) := F69_T k a0 (fun x3_0 x11_0 => F69_l0 k a0 k x3_0 x11_0)
theorem F69_st {β : Type} (k : Nat) (a0 : List (den (.sl (.int .u8)))) (K : A × List (List Leaf) → Option β) : evalF (F69_E k) Try.f69 (F69_a a0) K =
    F69_T k a0 (fun x3_0 x11_0 => loopG (F69_E k) Try.f69 [1, 1, 0, 1, 0] 0 (kontAt (F69_E k) [1, 1, 0, 1, 0] (bodyOf Try.f69) 0 (endC (F69_E k) Try.f69 (F69_a a0) K)) k (F69_s0 a0 x3_0 x11_0)) := by kernel_rfl
theorem F69_ev {β : Type} (k : Nat) (a0 : List (den (.sl (.int .u8)))) (K : A × List (List Leaf) → Option β) : evalF (F69_E k) Try.f69 (F69_a a0) K = (F69 k a0).bind fun r => K (F69_r r) := by
  rw [F69_st, F69]
  simp only [F69_T, bind_cond, Option.bind_assoc, Option.bind_some, Option.bind_none, Option.bind_fun_some, F69_l0_lp]
theorem F69_tOk (k : Nat) : TabFn Try.prog (F69_t k) := .ent (F138_q k) F138_f (.none)
theorem F69_con (k : Nat) (a0 : List (den (.sl (.int .u8)))) : Contract Try.prog 69 (F69_a a0) ⟨F69 k a0, F69_r⟩ := con_of (envOk (F69_tOk k) _ _ _ _) mixed Try.func69 rfl rfl (F69_ev k a0 some)
def F69_sh : List AK := [.one (.l (.sl .ro (.sl (.int .u8))))]
def F69_p (k : Nat) : List Arg → Option CR := cle F69_sh fun x => ⟨F69 k x.1, F69_r⟩
theorem F69_q (k : Nat) : ∀ xs cr, F69_p k xs = some cr → Contract Try.prog 69 xs cr := cle_ok fun x => F69_con k _
theorem F69_f : FnOk Try.prog 69 := .of (by kernel_rfl)
/-! 15: loop.example/netstack/impl.SegmentJoin -/
def F15_t (k : Nat) : Tab := entT 65 (F65_p k) <| entT 66 (F66_p k) <| entT 49 (F49_p k) <| entT 67 (F67_p k) <| entT 68 (F68_p k) <| entT 69 (F69_p k) <| noTab
abbrev F15_E (k : Nat) : Env := env (F15_t k) noHint .own [] k
abbrev F15_a (a0_0 a0_1 a0_2 a0_3 a0_4 : Int) (a0_5 a0_6 a0_7 a0_8 : Bool) (a0_9 : List (den rng)) (a0_10 : List (den (.int .u8))) (a1_0 a1_1 a1_2 a1_3 a1_4 : Int) (a1_5 a1_6 a1_7 a1_8 : Bool) (a1_9 : List (den rng)) (a1_10 : List (den (.int .u8))) : List Arg := [.agg [.l (.v (.int .i64 a0_0)), .l (.v (.int .i64 a0_1)), .l (.v (.int .i64 a0_2)), .l (.v (.int .i64 a0_3)), .l (.v (.int .i64 a0_4)), .l (.v (.bool a0_5)), .l (.v (.bool a0_6)), .l (.v (.bool a0_7)), .l (.v (.bool a0_8)), .l (.s .ro rng a0_9), .l (.s .ro (.int .u8) a0_10)], .agg [.l (.v (.int .i64 a1_0)), .l (.v (.int .i64 a1_1)), .l (.v (.int .i64 a1_2)), .l (.v (.int .i64 a1_3)), .l (.v (.int .i64 a1_4)), .l (.v (.bool a1_5)), .l (.v (.bool a1_6)), .l (.v (.bool a1_7)), .l (.v (.bool a1_8)), .l (.s .ro rng a1_9), .l (.s .ro (.int .u8) a1_10)]]
def F15_r (r : Int × Int × Int × Int × Int × Bool × Bool × Bool × Bool × List (den rng) × List (den (.int .u8)) × Bool) : A × List (List Leaf) := (.tup [(true, [.v (.int .i64 r.1), .v (.int .i64 r.2.1), .v (.int .i64 r.2.2.1), .v (.int .i64 r.2.2.2.1), .v (.int .i64 r.2.2.2.2.1), .v (.bool r.2.2.2.2.2.1), .v (.bool r.2.2.2.2.2.2.1), .v (.bool r.2.2.2.2.2.2.2.1), .v (.bool r.2.2.2.2.2.2.2.2.1), .s .own rng r.2.2.2.2.2.2.2.2.2.1, .s .own (.int .u8) r.2.2.2.2.2.2.2.2.2.2.1]), (false, [.v (.bool r.2.2.2.2.2.2.2.2.2.2.2)])], [])
def F15_T {β : Type} (k : Nat) (a0_0 a0_1 a0_2 a0_3 a0_4 : Int) (a0_5 a0_6 a0_7 a0_8 : Bool) (a0_9 : List (den rng)) (a0_10 : List (den (.int .u8))) (a1_0 a1_1 a1_2 a1_3 a1_4 : Int) (a1_5 a1_6 a1_7 a1_8 : Bool) (a1_9 : List (den rng)) (a1_10 : List (den (.int .u8))) (RET : (Int × Int × Int × Int × Int × Bool × Bool × Bool × Bool × List (den rng) × List (den (.int .u8)) × Bool) → Option β) : Option β := (F65 k a0_0 a0_1 a0_2 a0_3 a0_4 a0_5 a0_6 a0_7 a0_8 a0_9 a0_10).bind fun b1 => cond (!b1) (RET (0, 0, 0, 0, 0, false, false, false, false, [], [], false)) ((F65 k a1_0 a1_1 a1_2 a1_3 a1_4 a1_5 a1_6 a1_7 a1_8 a1_9 a1_10).bind fun b2 => cond (!b2) (RET (0, 0, 0, 0, 0, false, false, false, false, [], [], false)) (cond (a0_0 != a1_0) (RET (0, 0, 0, 0, 0, false, false, false, false, [], [], false)) (cond (a0_1 != a1_1) (RET (0, 0, 0, 0, 0, false, false, false, false, [], [], false)) (cond (!(a0_6 == a1_6)) (RET (0, 0, 0, 0, 0, false, false, false, false, [], [], false)) (cond (a0_3 != a1_3) (RET (0, 0, 0, 0, 0, false, false, false, false, [], [], false)) (cond (a0_4 != a1_4) (RET (0, 0, 0, 0, 0, false, false, false, false, [], [], false)) ((F66 k a0_9 a1_9).bind fun b3 => cond (!b3) (RET (0, 0, 0, 0, 0, false, false, false, false, [], [], false)) (cond a0_8 (RET (0, 0, 0, 0, 0, false, false, false, false, [], [], false)) (cond a1_8 (RET (0, 0, 0, 0, 0, false, false, false, false, [], [], false)) (cond (((a0_10.length : Nat) : Int) == 0) (RET (0, 0, 0, 0, 0, false, false, false, false, [], [], false)) (cond (((a1_10.length : Nat) : Int) == 0) (RET (0, 0, 0, 0, 0, false, false, false, false, [], [], false)) (cond a0_7 (RET (0, 0, 0, 0, 0, false, false, false, false, [], [], false)) (cond a1_5 (RET (0, 0, 0, 0, 0, false, false, false, false, [], [], false)) ((F49 k a0_0 a0_1 a0_2 a0_3 a0_4 a0_5 a0_6 a0_7 a0_8 a0_9 a0_10).bind fun b4 => (F67 k (IntKind.i64.wrap (a0_2 + b4))).bind fun b5 => cond (a1_2 != b5) (RET (0, 0, 0, 0, 0, false, false, false, false, [], [], false)) (cond (decide ((IntKind.i64.wrap (((a0_10.length : Nat) : Int) + ((a1_10.length : Nat) : Int))) > 12)) (RET (0, 0, 0, 0, 0, false, false, false, false, [], [], false)) ((F68 k a0_0 a0_1 a0_2 a0_3 a0_4 a0_5 a0_6 a0_7 a0_8 a0_9 a0_10).bind fun b6 => (F69 k [a0_10, a1_10]).bind fun b7 => (F68 k b6.1 b6.2.1 b6.2.2.1 b6.2.2.2.1 b6.2.2.2.2.1 b6.2.2.2.2.2.1 b6.2.2.2.2.2.2.1 a1_7 b6.2.2.2.2.2.2.2.2.1 b6.2.2.2.2.2.2.2.2.2.1 b7).bind fun b8 => RET (b8.1, b8.2.1, b8.2.2.1, b8.2.2.2.1, b8.2.2.2.2.1, b8.2.2.2.2.2.1, b8.2.2.2.2.2.2.1, b8.2.2.2.2.2.2.2.1, b8.2.2.2.2.2.2.2.2.1, b8.2.2.2.2.2.2.2.2.2.1, b8.2.2.2.2.2.2.2.2.2.2, true)))))))))))))))))
def F15 (k : Nat) (a0_0 a0_1 a0_2 a0_3 a0_4 : Int) (a0_5 a0_6 a0_7 a0_8 : Bool) (a0_9 : List (den rng)) (a0_10 : List (den (.int .u8))) (a1_0 a1_1 a1_2 a1_3 a1_4 : Int) (a1_5 a1_6 a1_7 a1_8 : Bool) (a1_9 : List (den rng)) (a1_10 : List (den (.int .u8))) : Option (Int × Int × Int × Int × Int × Bool × Bool × Bool × Bool × List (den rng) × List (den (.int .u8)) × Bool) := F15_T k a0_0 a0_1 a0_2 a0_3 a0_4 a0_5 a0_6 a0_7 a0_8 a0_9 a0_10 a1_0 a1_1 a1_2 a1_3 a1_4 a1_5 a1_6 a1_7 a1_8 a1_9 a1_10 some
theorem F15_st {β : Type} (k : Nat) (a0_0 a0_1 a0_2 a0_3 a0_4 : Int) (a0_5 a0_6 a0_7 a0_8 : Bool) (a0_9 : List (den rng)) (a0_10 : List (den (.int .u8))) (a1_0 a1_1 a1_2 a1_3 a1_4 : Int) (a1_5 a1_6 a1_7 a1_8 : Bool) (a1_9 : List (den rng)) (a1_10 : List (den (.int .u8))) (K : A × List (List Leaf) → Option β) : evalF (F15_E k) Try.f15 (F15_a a0_0 a0_1 a0_2 a0_3 a0_4 a0_5 a0_6 a0_7 a0_8 a0_9 a0_10 a1_0 a1_1 a1_2 a1_3 a1_4 a1_5 a1_6 a1_7 a1_8 a1_9 a1_10) K =
    F15_T k a0_0 a0_1 a0_2 a0_3 a0_4 a0_5 a0_6 a0_7 a0_8 a0_9 a0_10 a1_0 a1_1 a1_2 a1_3 a1_4 a1_5 a1_6 a1_7 a1_8 a1_9 a1_10 (fun r => K (F15_r r)) := by kernel_rfl
theorem F15_ev {β : Type} (k : Nat) (a0_0 a0_1 a0_2 a0_3 a0_4 : Int) (a0_5 a0_6 a0_7 a0_8 : Bool) (a0_9 : List (den rng)) (a0_10 : List (den (.int .u8))) (a1_0 a1_1 a1_2 a1_3 a1_4 : Int) (a1_5 a1_6 a1_7 a1_8 : Bool) (a1_9 : List (den rng)) (a1_10 : List (den (.int .u8))) (K : A × List (List Leaf) → Option β) : evalF (F15_E k) Try.f15 (F15_a a0_0 a0_1 a0_2 a0_3 a0_4 a0_5 a0_6 a0_7 a0_8 a0_9 a0_10 a1_0 a1_1 a1_2 a1_3 a1_4 a1_5 a1_6 a1_7 a1_8 a1_9 a1_10) K = (F15 k a0_0 a0_1 a0_2 a0_3 a0_4 a0_5 a0_6 a0_7 a0_8 a0_9 a0_10 a1_0 a1_1 a1_2 a1_3 a1_4 a1_5 a1_6 a1_7 a1_8 a1_9 a1_10).bind fun r => K (F15_r r) := by
  rw [F15_st, F15]
  simp only [F15_T, bind_cond, Option.bind_assoc, Option.bind_some, Option.bind_none, Option.bind_fun_some]
theorem F15_tOk (k : Nat) : TabFn Try.prog (F15_t k) := .ent (F65_q k) F65_f (.ent (F66_q k) F66_f (.ent (F49_q k) F49_f (.ent (F67_q k) F67_f (.ent (F68_q k) F68_f (.ent (F69_q k) F69_f (.none))))))
theorem F15_con (k : Nat) (a0_0 a0_1 a0_2 a0_3 a0_4 : Int) (a0_5 a0_6 a0_7 a0_8 : Bool) (a0_9 : List (den rng)) (a0_10 : List (den (.int .u8))) (a1_0 a1_1 a1_2 a1_3 a1_4 : Int) (a1_5 a1_6 a1_7 a1_8 : Bool) (a1_9 : List (den rng)) (a1_10 : List (den (.int .u8))) : Contract Try.prog 15 (F15_a a0_0 a0_1 a0_2 a0_3 a0_4 a0_5 a0_6 a0_7 a0_8 a0_9 a0_10 a1_0 a1_1 a1_2 a1_3 a1_4 a1_5 a1_6 a1_7 a1_8 a1_9 a1_10) ⟨F15 k a0_0 a0_1 a0_2 a0_3 a0_4 a0_5 a0_6 a0_7 a0_8 a0_9 a0_10 a1_0 a1_1 a1_2 a1_3 a1_4 a1_5 a1_6 a1_7 a1_8 a1_9 a1_10, F15_r⟩ := con_of (envOk (F15_tOk k) _ _ _ _) mixed Try.func15 rfl rfl (F15_ev k a0_0 a0_1 a0_2 a0_3 a0_4 a0_5 a0_6 a0_7 a0_8 a0_9 a0_10 a1_0 a1_1 a1_2 a1_3 a1_4 a1_5 a1_6 a1_7 a1_8 a1_9 a1_10 some)
def F15_sh : List AK := [.agg [.l (.int .i64), .l (.int .i64), .l (.int .i64), .l (.int .i64), .l (.int .i64), .l (.bool), .l (.bool), .l (.bool), .l (.bool), .l (.sl .ro rng), .l (.sl .ro (.int .u8))], .agg [.l (.int .i64), .l (.int .i64), .l (.int .i64), .l (.int .i64), .l (.int .i64), .l (.bool), .l (.bool), .l (.bool), .l (.bool), .l (.sl .ro rng), .l (.sl .ro (.int .u8))]]
def F15_p (k : Nat) : List Arg → Option CR := cle F15_sh fun x => ⟨F15 k x.1.1 x.1.2.1 x.1.2.2.1 x.1.2.2.2.1 x.1.2.2.2.2.1 x.1.2.2.2.2.2.1 x.1.2.2.2.2.2.2.1 x.1.2.2.2.2.2.2.2.1 x.1.2.2.2.2.2.2.2.2.1 x.1.2.2.2.2.2.2.2.2.2.1 x.1.2.2.2.2.2.2.2.2.2.2.1 x.2.1.1 x.2.1.2.1 x.2.1.2.2.1 x.2.1.2.2.2.1 x.2.1.2.2.2.2.1 x.2.1.2.2.2.2.2.1 x.2.1.2.2.2.2.2.2.1 x.2.1.2.2.2.2.2.2.2.1 x.2.1.2.2.2.2.2.2.2.2.1 x.2.1.2.2.2.2.2.2.2.2.2.1 x.2.1.2.2.2.2.2.2.2.2.2.2.1, F15_r⟩
theorem F15_q (k : Nat) : ∀ xs cr, F15_p k xs = some cr → Contract Try.prog 15 xs cr := cle_ok fun x => F15_con k _ _ _ _ _ _ _ _ _ _ _ _ _ _ _ _ _ _ _ _ _ _
theorem F15_f : FnOk Try.prog 15 := .of (by kernel_rfl)
/-! 139: loop.example/netstack/laws.eqRange -/
abbrev F139_E (k : Nat) : Env := env noTab noHint .own [] k
abbrev F139_a (a0_0 a0_1 a1_0 a1_1 : Int) : List Arg := [.agg [.l (.v (.int .i64 a0_0)), .l (.v (.int .i64 a0_1))], .agg [.l (.v (.int .i64 a1_0)), .l (.v (.int .i64 a1_1))]]
def F139_r (r : Bool) : A × List (List Leaf) := (.one (.v (.bool r)), [])
def F139 (k : Nat) (a0_0 a0_1 a1_0 a1_1 : Int) : Option (Bool) := cond (a0_0 != a1_0) (some false) (cond (a0_1 != a1_1) (some false) (some true))
theorem F139_st {β : Type} (k : Nat) (a0_0 a0_1 a1_0 a1_1 : Int) (K : A × List (List Leaf) → Option β) : evalF (F139_E k) Try.f139 (F139_a a0_0 a0_1 a1_0 a1_1) K =
    cond (a0_0 != a1_0) (K (.one (.v (.bool false)), [])) (cond (a0_1 != a1_1) (K (.one (.v (.bool false)), [])) (K (.one (.v (.bool true)), []))) := by kernel_rfl
theorem F139_ev {β : Type} (k : Nat) (a0_0 a0_1 a1_0 a1_1 : Int) (K : A × List (List Leaf) → Option β) : evalF (F139_E k) Try.f139 (F139_a a0_0 a0_1 a1_0 a1_1) K = (F139 k a0_0 a0_1 a1_0 a1_1).bind fun r => K (F139_r r) := by
  rw [F139_st, F139]
  simp only [F139_r, bind_cond, Option.bind_assoc, Option.bind_some, Option.bind_none, Option.bind_fun_some]
theorem F139_con (k : Nat) (a0_0 a0_1 a1_0 a1_1 : Int) : Contract Try.prog 139 (F139_a a0_0 a0_1 a1_0 a1_1) ⟨F139 k a0_0 a0_1 a1_0 a1_1, F139_r⟩ := con_of (envOk .none _ _ _ _) mixed Try.func139 rfl rfl (F139_ev k a0_0 a0_1 a1_0 a1_1 some)
def F139_sh : List AK := [.agg [.l (.int .i64), .l (.int .i64)], .agg [.l (.int .i64), .l (.int .i64)]]
def F139_p (k : Nat) : List Arg → Option CR := cle F139_sh fun x => ⟨F139 k x.1.1 x.1.2.1 x.2.1.1 x.2.1.2.1, F139_r⟩
theorem F139_q (k : Nat) : ∀ xs cr, F139_p k xs = some cr → Contract Try.prog 139 xs cr := cle_ok fun x => F139_con k _ _ _ _
theorem F139_f : FnOk Try.prog 139 := .of (by kernel_rfl)
/-! 70: loop.example/netstack/laws.eqRangeS -/
def F70_h : Nat → Hint
  | 0 => ⟨[(0, .plain), (1, .plain), (5, .plain)], []⟩
  | _ => ⟨[], []⟩
def F70_t (k : Nat) : Tab := entT 139 (F139_p k) <| noTab
abbrev F70_E (k : Nat) : Env := env (F70_t k) F70_h .own [] k
abbrev F70_a (a0 a1 : List (den rng)) : List Arg := [.one (.l (.s .ro rng a0)), .one (.l (.s .ro rng a1))]
def F70_r (r : Bool) : A × List (List Leaf) := (.one (.v (.bool r)), [])
def F70_s0 (a0 a1 : List (den rng)) (x5_0 : Int) : St := ⟨(.one (.s .ro rng a0)) :: (.one (.s .ro rng a1)) :: dz 3 ((.one (.v (.int .i64 x5_0))) :: dz 21 []), []⟩
def F70_l0_T {β : Type} (k : Nat) (a0 a1 : List (den rng)) (NX : Int → Option β) (RET : Bool → Option β) (x5_0 : Int) : Option β := cond (decide (x5_0 < ((a0.length : Nat) : Int))) (cond (decide (0 ≤ x5_0)) (cond (decide (x5_0 < ((a0.length : Nat) : Int))) (cond (decide (0 ≤ x5_0)) (cond (decide (x5_0 < ((a1.length : Nat) : Int))) ((F139 k ((atI a0 x5_0).1) ((atI a0 x5_0).2) ((atI a1 x5_0).1) ((atI a1 x5_0).2)).bind fun b1 => cond (!b1) (RET false) (NX (IntKind.i64.wrap (x5_0 + 1)))) none) none) none) none) (RET true)
def F70_l0 (k : Nat) (a0 a1 : List (den rng)) : Nat → Int → Option (Bool)
  | 0, _ => none
  | n + 1, x5_0 => F70_l0_T k a0 a1 (fun x5_0 => F70_l0 k a0 a1 n x5_0) some x5_0
theorem F70_l0_rd {β : Type} (k n : Nat) (a0 a1 : List (den rng)) (x5_0 : Int) (K : A × List (List Leaf) → Option β) :
    loopG (F70_E k) Try.f70 [1, 1, 0, 1, 0] 0 (kontAt (F70_E k) [1, 1, 0, 1, 0] (bodyOf Try.f70) 0 (endC (F70_E k) Try.f70 (F70_a a0 a1) K)) (n + 1) (F70_s0 a0 a1 x5_0) =
    F70_l0_T k a0 a1 (fun x5_0 => loopG (F70_E k) Try.f70 [1, 1, 0, 1, 0] 0 (kontAt (F70_E k) [1, 1, 0, 1, 0] (bodyOf Try.f70) 0 (endC (F70_E k) Try.f70 (F70_a a0 a1) K)) n (F70_s0 a0 a1 x5_0)) (fun r => K (F70_r r)) x5_0 := by kernel_rfl
theorem F70_l0_lp {β : Type} (k : Nat) (a0 a1 : List (den rng)) (K : A × List (List Leaf) → Option β) (n : Nat) : ∀ (x5_0 : Int), loopG (F70_E k) Try.f70 [1, 1, 0, 1, 0] 0 (kontAt (F70_E k) [1, 1, 0, 1, 0] (bodyOf Try.f70) 0 (endC (F70_E k) Try.f70 (F70_a a0 a1) K)) n (F70_s0 a0 a1 x5_0) =
    (F70_l0 k a0 a1 n x5_0).bind fun r => K (F70_r r) := by
  induction n with
  | zero => intros; rfl
  | succ n ih =>
    intros
    rw [F70_l0_rd, F70_l0]
    simp only [F70_l0_T, bind_cond, Option.bind_assoc, Option.bind_some, Option.bind_none, Option.bind_fun_some, ih]
def F70_T {β : Type} (k : Nat) (a0 a1 : List (den rng)) (LP0 : Int → Option β) (RET : Bool → Option β) : Option β := cond (((a0.length : Nat) : Int) != ((a1.length : Nat) : Int)) (RET false) (LP0 0)
def F70 (k : Nat) (a0 a1 : List (den rng)) : Option (Bool) := F70_T k a0 a1 (fun x5_0 => F70_l0 k a0 a1 k x5_0) some
theorem F70_st {β : Type} (k : Nat) (a0 a1 : List (den rng)) (K : A × List (List Leaf) → Option β) : evalF (F70_E k) Try.f70 (F70_a a0 a1) K =
    F70_T k a0 a1 (fun x5_0 => loopG (F70_E k) Try.f70 [1, 1, 0, 1, 0] 0 (kontAt (F70_E k) [1, 1, 0, 1, 0] (bodyOf Try.f70) 0 (endC (F70_E k) Try.f70 (F70_a a0 a1) K)) k (F70_s0 a0 a1 x5_0)) (fun r => K (F70_r r)) := by kernel_rfl
theorem F70_ev {β : Type} (k : Nat) (a0 a1 : List (den rng)) (K : A × List (List Leaf) → Option β) : evalF (F70_E k) Try.f70 (F70_a a0 a1) K = (F70 k a0 a1).bind fun r => K (F70_r r) := by
  rw [F70_st, F70]
  simp only [F70_T, bind_cond, Option.bind_assoc, Option.bind_some, Option.bind_none, Option.bind_fun_some, F70_l0_lp]
theorem F70_tOk (k : Nat) : TabFn Try.prog (F70_t k) := .ent (F139_q k) F139_f (.none)
theorem F70_con (k : Nat) (a0 a1 : List (den rng)) : Contract Try.prog 70 (F70_a a0 a1) ⟨F70 k a0 a1, F70_r⟩ := con_of (envOk (F70_tOk k) _ _ _ _) mixed Try.func70 rfl rfl (F70_ev k a0 a1 some)
def F70_sh : List AK := [.one (.l (.sl .ro rng)), .one (.l (.sl .ro rng))]
def F70_p (k : Nat) : List Arg → Option CR := cle F70_sh fun x => ⟨F70 k x.1 x.2.1, F70_r⟩
theorem F70_q (k : Nat) : ∀ xs cr, F70_p k xs = some cr → Contract Try.prog 70 xs cr := cle_ok fun x => F70_con k _ _
theorem F70_f : FnOk Try.prog 70 := .of (by kernel_rfl)
/-! 42: loop.example/netstack/laws.eqByteS -/
def F42_h : Nat → Hint
  | 0 => ⟨[(0, .plain), (1, .plain), (5, .plain)], []⟩
  | _ => ⟨[], []⟩
abbrev F42_E (k : Nat) : Env := env noTab F42_h .own [] k
abbrev F42_a (a0 a1 : List (den (.int .u8))) : List Arg := [.one (.l (.s .ro (.int .u8) a0)), .one (.l (.s .ro (.int .u8) a1))]
def F42_r (r : Bool) : A × List (List Leaf) := (.one (.v (.bool r)), [])
def F42_s0 (a0 a1 : List (den (.int .u8))) (x5_0 : Int) : St := ⟨(.one (.s .ro (.int .u8) a0)) :: (.one (.s .ro (.int .u8) a1)) :: dz 3 ((.one (.v (.int .i64 x5_0))) :: dz 20 []), []⟩
def F42_l0_T {β : Type} (k : Nat) (a0 a1 : List (den (.int .u8))) (NX : Int → Option β) (RET : Bool → Option β) (x5_0 : Int) : Option β := cond (decide (x5_0 < ((a0.length : Nat) : Int))) (cond (decide (0 ≤ x5_0)) (cond (decide (x5_0 < ((a0.length : Nat) : Int))) (cond (decide (0 ≤ x5_0)) (cond (decide (x5_0 < ((a1.length : Nat) : Int))) (cond ((atI a0 x5_0) != (atI a1 x5_0)) (RET false) (NX (IntKind.i64.wrap (x5_0 + 1)))) none) none) none) none) (RET true)
def F42_l0 (k : Nat) (a0 a1 : List (den (.int .u8))) : Nat → Int → Option (Bool)
  | 0, _ => none
  | n + 1, x5_0 => F42_l0_T k a0 a1 (fun x5_0 => F42_l0 k a0 a1 n x5_0) some x5_0
theorem F42_l0_rd {β : Type} (k n : Nat) (a0 a1 : List (den (.int .u8))) (x5_0 : Int) (K : A × List (List Leaf) → Option β) :
    loopG (F42_E k) Try.f42 [1, 1, 0, 1, 0] 0 (kontAt (F42_E k) [1, 1, 0, 1, 0] (bodyOf Try.f42) 0 (endC (F42_E k) Try.f42 (F42_a a0 a1) K)) (n + 1) (F42_s0 a0 a1 x5_0) =
    F42_l0_T k a0 a1 (fun x5_0 => loopG (F42_E k) Try.f42 [1, 1, 0, 1, 0] 0 (kontAt (F42_E k) [1, 1, 0, 1, 0] (bodyOf Try.f42) 0 (endC (F42_E k) Try.f42 (F42_a a0 a1) K)) n (F42_s0 a0 a1 x5_0)) (fun r => K (F42_r r)) x5_0 := by kernel_rfl
theorem F42_l0_lp {β : Type} (k : Nat) (a0 a1 : List (den (.int .u8))) (K : A × List (List Leaf) → Option β) (n : Nat) : ∀ (x5_0 : Int), loopG (F42_E k) Try.f42 [1, 1, 0, 1, 0] 0 (kontAt (F42_E k) [1, 1, 0, 1, 0] (bodyOf Try.f42) 0 (endC (F42_E k) Try.f42 (F42_a a0 a1) K)) n (F42_s0 a0 a1 x5_0) =
    (F42_l0 k a0 a1 n x5_0).bind fun r => K (F42_r r) := by
  induction n with
  | zero => intros; rfl
  | succ n ih =>
    intros
    rw [F42_l0_rd, F42_l0]
    simp only [F42_l0_T, bind_cond, Option.bind_assoc, Option.bind_some, Option.bind_none, Option.bind_fun_some, ih]
def F42_T {β : Type} (k : Nat) (a0 a1 : List (den (.int .u8))) (LP0 : Int → Option β) (RET : Bool → Option β) : Option β := cond (((a0.length : Nat) : Int) != ((a1.length : Nat) : Int)) (RET false) (LP0 0)
def F42 (k : Nat) (a0 a1 : List (den (.int .u8))) : Option (Bool) := F42_T k a0 a1 (fun x5_0 => F42_l0 k a0 a1 k x5_0) some
theorem F42_st {β : Type} (k : Nat) (a0 a1 : List (den (.int .u8))) (K : A × List (List Leaf) → Option β) : evalF (F42_E k) Try.f42 (F42_a a0 a1) K =
    F42_T k a0 a1 (fun x5_0 => loopG (F42_E k) Try.f42 [1, 1, 0, 1, 0] 0 (kontAt (F42_E k) [1, 1, 0, 1, 0] (bodyOf Try.f42) 0 (endC (F42_E k) Try.f42 (F42_a a0 a1) K)) k (F42_s0 a0 a1 x5_0)) (fun r => K (F42_r r)) := by kernel_rfl
theorem F42_ev {β : Type} (k : Nat) (a0 a1 : List (den (.int .u8))) (K : A × List (List Leaf) → Option β) : evalF (F42_E k) Try.f42 (F42_a a0 a1) K = (F42 k a0 a1).bind fun r => K (F42_r r) := by
  rw [F42_st, F42]
  simp only [F42_T, bind_cond, Option.bind_assoc, Option.bind_some, Option.bind_none, Option.bind_fun_some, F42_l0_lp]
theorem F42_con (k : Nat) (a0 a1 : List (den (.int .u8))) : Contract Try.prog 42 (F42_a a0 a1) ⟨F42 k a0 a1, F42_r⟩ := con_of (envOk .none _ _ _ _) mixed Try.func42 rfl rfl (F42_ev k a0 a1 some)
def F42_sh : List AK := [.one (.l (.sl .ro (.int .u8))), .one (.l (.sl .ro (.int .u8)))]
def F42_p (k : Nat) : List Arg → Option CR := cle F42_sh fun x => ⟨F42 k x.1 x.2.1, F42_r⟩
theorem F42_q (k : Nat) : ∀ xs cr, F42_p k xs = some cr → Contract Try.prog 42 xs cr := cle_ok fun x => F42_con k _ _
theorem F42_f : FnOk Try.prog 42 := .of (by kernel_rfl)
/-! 16: loop.example/netstack/laws.eqSegment -/
def F16_t (k : Nat) : Tab := entT 70 (F70_p k) <| entT 42 (F42_p k) <| noTab
abbrev F16_E (k : Nat) : Env := env (F16_t k) noHint .own [] k
abbrev F16_a (a0_0 a0_1 a0_2 a0_3 a0_4 : Int) (a0_5 a0_6 a0_7 a0_8 : Bool) (a0_9 : List (den rng)) (a0_10 : List (den (.int .u8))) (a1_0 a1_1 a1_2 a1_3 a1_4 : Int) (a1_5 a1_6 a1_7 a1_8 : Bool) (a1_9 : List (den rng)) (a1_10 : List (den (.int .u8))) : List Arg := [.agg [.l (.v (.int .i64 a0_0)), .l (.v (.int .i64 a0_1)), .l (.v (.int .i64 a0_2)), .l (.v (.int .i64 a0_3)), .l (.v (.int .i64 a0_4)), .l (.v (.bool a0_5)), .l (.v (.bool a0_6)), .l (.v (.bool a0_7)), .l (.v (.bool a0_8)), .l (.s .ro rng a0_9), .l (.s .ro (.int .u8) a0_10)], .agg [.l (.v (.int .i64 a1_0)), .l (.v (.int .i64 a1_1)), .l (.v (.int .i64 a1_2)), .l (.v (.int .i64 a1_3)), .l (.v (.int .i64 a1_4)), .l (.v (.bool a1_5)), .l (.v (.bool a1_6)), .l (.v (.bool a1_7)), .l (.v (.bool a1_8)), .l (.s .ro rng a1_9), .l (.s .ro (.int .u8) a1_10)]]
def F16_r (r : Bool) : A × List (List Leaf) := (.one (.v (.bool r)), [])
def F16_T {β : Type} (k : Nat) (a0_0 a0_1 a0_2 a0_3 a0_4 : Int) (a0_5 a0_6 a0_7 a0_8 : Bool) (a0_9 : List (den rng)) (a0_10 : List (den (.int .u8))) (a1_0 a1_1 a1_2 a1_3 a1_4 : Int) (a1_5 a1_6 a1_7 a1_8 : Bool) (a1_9 : List (den rng)) (a1_10 : List (den (.int .u8))) (RET : Bool → Option β) : Option β := cond (a0_0 != a1_0) (RET false) (cond (a0_1 != a1_1) (RET false) (cond (a0_2 != a1_2) (RET false) (cond (a0_3 != a1_3) (RET false) (cond (a0_4 != a1_4) (RET false) (cond (!(a0_5 == a1_5)) (RET false) (cond (!(a0_6 == a1_6)) (RET false) (cond (!(a0_7 == a1_7)) (RET false) (cond (!(a0_8 == a1_8)) (RET false) ((F70 k a0_9 a1_9).bind fun b1 => cond (!b1) (RET false) ((F42 k a0_10 a1_10).bind fun b2 => cond (!b2) (RET false) (RET true)))))))))))
def F16 (k : Nat) (a0_0 a0_1 a0_2 a0_3 a0_4 : Int) (a0_5 a0_6 a0_7 a0_8 : Bool) (a0_9 : List (den rng)) (a0_10 : List (den (.int .u8))) (a1_0 a1_1 a1_2 a1_3 a1_4 : Int) (a1_5 a1_6 a1_7 a1_8 : Bool) (a1_9 : List (den rng)) (a1_10 : List (den (.int .u8))) : Option (Bool) := F16_T k a0_0 a0_1 a0_2 a0_3 a0_4 a0_5 a0_6 a0_7 a0_8 a0_9 a0_10 a1_0 a1_1 a1_2 a1_3 a1_4 a1_5 a1_6 a1_7 a1_8 a1_9 a1_10 some
theorem F16_st {β : Type} (k : Nat) (a0_0 a0_1 a0_2 a0_3 a0_4 : Int) (a0_5 a0_6 a0_7 a0_8 : Bool) (a0_9 : List (den rng)) (a0_10 : List (den (.int .u8))) (a1_0 a1_1 a1_2 a1_3 a1_4 : Int) (a1_5 a1_6 a1_7 a1_8 : Bool) (a1_9 : List (den rng)) (a1_10 : List (den (.int .u8))) (K : A × List (List Leaf) → Option β) : evalF (F16_E k) Try.f16 (F16_a a0_0 a0_1 a0_2 a0_3 a0_4 a0_5 a0_6 a0_7 a0_8 a0_9 a0_10 a1_0 a1_1 a1_2 a1_3 a1_4 a1_5 a1_6 a1_7 a1_8 a1_9 a1_10) K =
    F16_T k a0_0 a0_1 a0_2 a0_3 a0_4 a0_5 a0_6 a0_7 a0_8 a0_9 a0_10 a1_0 a1_1 a1_2 a1_3 a1_4 a1_5 a1_6 a1_7 a1_8 a1_9 a1_10 (fun r => K (F16_r r)) := by kernel_rfl
theorem F16_ev {β : Type} (k : Nat) (a0_0 a0_1 a0_2 a0_3 a0_4 : Int) (a0_5 a0_6 a0_7 a0_8 : Bool) (a0_9 : List (den rng)) (a0_10 : List (den (.int .u8))) (a1_0 a1_1 a1_2 a1_3 a1_4 : Int) (a1_5 a1_6 a1_7 a1_8 : Bool) (a1_9 : List (den rng)) (a1_10 : List (den (.int .u8))) (K : A × List (List Leaf) → Option β) : evalF (F16_E k) Try.f16 (F16_a a0_0 a0_1 a0_2 a0_3 a0_4 a0_5 a0_6 a0_7 a0_8 a0_9 a0_10 a1_0 a1_1 a1_2 a1_3 a1_4 a1_5 a1_6 a1_7 a1_8 a1_9 a1_10) K = (F16 k a0_0 a0_1 a0_2 a0_3 a0_4 a0_5 a0_6 a0_7 a0_8 a0_9 a0_10 a1_0 a1_1 a1_2 a1_3 a1_4 a1_5 a1_6 a1_7 a1_8 a1_9 a1_10).bind fun r => K (F16_r r) := by
  rw [F16_st, F16]
  simp only [F16_T, bind_cond, Option.bind_assoc, Option.bind_some, Option.bind_none, Option.bind_fun_some]
theorem F16_tOk (k : Nat) : TabFn Try.prog (F16_t k) := .ent (F70_q k) F70_f (.ent (F42_q k) F42_f (.none))
theorem F16_con (k : Nat) (a0_0 a0_1 a0_2 a0_3 a0_4 : Int) (a0_5 a0_6 a0_7 a0_8 : Bool) (a0_9 : List (den rng)) (a0_10 : List (den (.int .u8))) (a1_0 a1_1 a1_2 a1_3 a1_4 : Int) (a1_5 a1_6 a1_7 a1_8 : Bool) (a1_9 : List (den rng)) (a1_10 : List (den (.int .u8))) : Contract Try.prog 16 (F16_a a0_0 a0_1 a0_2 a0_3 a0_4 a0_5 a0_6 a0_7 a0_8 a0_9 a0_10 a1_0 a1_1 a1_2 a1_3 a1_4 a1_5 a1_6 a1_7 a1_8 a1_9 a1_10) ⟨F16 k a0_0 a0_1 a0_2 a0_3 a0_4 a0_5 a0_6 a0_7 a0_8 a0_9 a0_10 a1_0 a1_1 a1_2 a1_3 a1_4 a1_5 a1_6 a1_7 a1_8 a1_9 a1_10, F16_r⟩ := con_of (envOk (F16_tOk k) _ _ _ _) mixed Try.func16 rfl rfl (F16_ev k a0_0 a0_1 a0_2 a0_3 a0_4 a0_5 a0_6 a0_7 a0_8 a0_9 a0_10 a1_0 a1_1 a1_2 a1_3 a1_4 a1_5 a1_6 a1_7 a1_8 a1_9 a1_10 some)
def F16_sh : List AK := [.agg [.l (.int .i64), .l (.int .i64), .l (.int .i64), .l (.int .i64), .l (.int .i64), .l (.bool), .l (.bool), .l (.bool), .l (.bool), .l (.sl .ro rng), .l (.sl .ro (.int .u8))], .agg [.l (.int .i64), .l (.int .i64), .l (.int .i64), .l (.int .i64), .l (.int .i64), .l (.bool), .l (.bool), .l (.bool), .l (.bool), .l (.sl .ro rng), .l (.sl .ro (.int .u8))]]
def F16_p (k : Nat) : List Arg → Option CR := cle F16_sh fun x => ⟨F16 k x.1.1 x.1.2.1 x.1.2.2.1 x.1.2.2.2.1 x.1.2.2.2.2.1 x.1.2.2.2.2.2.1 x.1.2.2.2.2.2.2.1 x.1.2.2.2.2.2.2.2.1 x.1.2.2.2.2.2.2.2.2.1 x.1.2.2.2.2.2.2.2.2.2.1 x.1.2.2.2.2.2.2.2.2.2.2.1 x.2.1.1 x.2.1.2.1 x.2.1.2.2.1 x.2.1.2.2.2.1 x.2.1.2.2.2.2.1 x.2.1.2.2.2.2.2.1 x.2.1.2.2.2.2.2.2.1 x.2.1.2.2.2.2.2.2.2.1 x.2.1.2.2.2.2.2.2.2.2.1 x.2.1.2.2.2.2.2.2.2.2.2.1 x.2.1.2.2.2.2.2.2.2.2.2.2.1, F16_r⟩
theorem F16_q (k : Nat) : ∀ xs cr, F16_p k xs = some cr → Contract Try.prog 16 xs cr := cle_ok fun x => F16_con k _ _ _ _ _ _ _ _ _ _ _ _ _ _ _ _ _ _ _ _ _ _
theorem F16_f : FnOk Try.prog 16 := .of (by kernel_rfl)
/-! 71: loop.example/netstack/laws.markRangeS -/
def F71_h : Nat → Hint
  | 0 => ⟨[(0, .plain), (1, .plain), (5, .plain)], [(0, .plain)]⟩
  | _ => ⟨[], []⟩
abbrev F71_E (k : Nat) : Env := env noTab F71_h .own [(true, 0)] k
abbrev F71_a (a0 : List (den rng)) (a1 : Int) : List Arg := [.one (.b (.s .own rng a0)), .one (.l (.v (.int .i64 a1)))]
def F71_r (r : Int × List (den rng)) : A × List (List Leaf) := (.one (.v (.int .i64 r.1)), [[.s .own rng r.2]])
def F71_s0 (a0 : List (den rng)) (a1 : Int) (x1_0 x5_0 : Int) (m0_0 : List (den rng)) : St := ⟨(.one (.a (.cell 0) 0 0 none)) :: (.one (.v (.int .i64 x1_0))) :: dz 3 ((.one (.v (.int .i64 x5_0))) :: dz 21 []), [(0, ⟨.s .own rng m0_0, 0, 0⟩)]⟩
def F71_l0_T {β : Type} (k : Nat) (a0 : List (den rng)) (a1 : Int) (NX : Int → Int → List (den rng) → Option β) (RET : (Int × List (den rng)) → Option β) (x1_0 x5_0 : Int) (m0_0 : List (den rng)) : Option β := cond (decide (x5_0 < ((m0_0.length : Nat) : Int))) (cond (decide (0 ≤ x5_0)) (cond (decide (x5_0 < ((m0_0.length : Nat) : Int))) (cond (decide (0 ≤ x5_0)) (cond (decide (x5_0 < (((m0_0.set x5_0.toNat (x1_0, (atI m0_0 x5_0).2)).length : Nat) : Int))) (NX (IntKind.i64.wrap ((IntKind.i64.wrap (x1_0 + 1)) + 1)) (IntKind.i64.wrap (x5_0 + 1)) ((m0_0.set x5_0.toNat (x1_0, (atI m0_0 x5_0).2)).set x5_0.toNat ((atI (m0_0.set x5_0.toNat (x1_0, (atI m0_0 x5_0).2)) x5_0).1, IntKind.i64.wrap (x1_0 + 1)))) none) none) none) none) (RET (x1_0, m0_0))
def F71_l0 (k : Nat) (a0 : List (den rng)) (a1 : Int) : Nat → Int → Int → List (den rng) → Option (Int × List (den rng))
  | 0, _, _, _ => none
  | n + 1, x1_0, x5_0, m0_0 => F71_l0_T k a0 a1 (fun x1_0 x5_0 m0_0 => F71_l0 k a0 a1 n x1_0 x5_0 m0_0) some x1_0 x5_0 m0_0
theorem F71_l0_rd {β : Type} (k n : Nat) (a0 : List (den rng)) (a1 : Int) (x1_0 x5_0 : Int) (m0_0 : List (den rng)) (K : A × List (List Leaf) → Option β) :
    loopG (F71_E k) Try.f71 [1, 0, 1, 0] 0 (kontAt (F71_E k) [1, 0, 1, 0] (bodyOf Try.f71) 0 (endC (F71_E k) Try.f71 (F71_a a0 a1) K)) (n + 1) (F71_s0 a0 a1 x1_0 x5_0 m0_0) =
    F71_l0_T k a0 a1 (fun x1_0 x5_0 m0_0 => loopG (F71_E k) Try.f71 [1, 0, 1, 0] 0 (kontAt (F71_E k) [1, 0, 1, 0] (bodyOf Try.f71) 0 (endC (F71_E k) Try.f71 (F71_a a0 a1) K)) n (F71_s0 a0 a1 x1_0 x5_0 m0_0)) (fun r => K (F71_r r)) x1_0 x5_0 m0_0 := by kernel_rfl
theorem F71_l0_lp {β : Type} (k : Nat) (a0 : List (den rng)) (a1 : Int) (K : A × List (List Leaf) → Option β) (n : Nat) : ∀ (x1_0 x5_0 : Int) (m0_0 : List (den rng)), loopG (F71_E k) Try.f71 [1, 0, 1, 0] 0 (kontAt (F71_E k) [1, 0, 1, 0] (bodyOf Try.f71) 0 (endC (F71_E k) Try.f71 (F71_a a0 a1) K)) n (F71_s0 a0 a1 x1_0 x5_0 m0_0) =
    (F71_l0 k a0 a1 n x1_0 x5_0 m0_0).bind fun r => K (F71_r r) := by
  induction n with
  | zero => intros; rfl
  | succ n ih =>
    intros
    rw [F71_l0_rd, F71_l0]
    simp only [F71_l0_T, bind_cond, Option.bind_assoc, Option.bind_some, Option.bind_none, Option.bind_fun_some, ih]
def F71_T {β : Type} (k : Nat) (a0 : List (den rng)) (a1 : Int) (LP0 : Int → Int → List (den rng) → Option β) : Option β := LP0 a1 0 a0
def F71 (k : Nat) (a0 : List (den rng)) (a1 : Int) : Option (Int × List (den rng)) := F71_T k a0 a1 (fun x1_0 x5_0 m0_0 => F71_l0 k a0 a1 k x1_0 x5_0 m0_0)
theorem F71_st {β : Type} (k : Nat) (a0 : List (den rng)) (a1 : Int) (K : A × List (List Leaf) → Option β) : evalF (F71_E k) Try.f71 (F71_a a0 a1) K =
    F71_T k a0 a1 (fun x1_0 x5_0 m0_0 => loopG (F71_E k) Try.f71 [1, 0, 1, 0] 0 (kontAt (F71_E k) [1, 0, 1, 0] (bodyOf Try.f71) 0 (endC (F71_E k) Try.f71 (F71_a a0 a1) K)) k (F71_s0 a0 a1 x1_0 x5_0 m0_0)) := by kernel_rfl
theorem F71_ev {β : Type} (k : Nat) (a0 : List (den rng)) (a1 : Int) (K : A × List (List Leaf) → Option β) : evalF (F71_E k) Try.f71 (F71_a a0 a1) K = (F71 k a0 a1).bind fun r => K (F71_r r) := by
  rw [F71_st, F71]
  simp only [F71_T, bind_cond, Option.bind_assoc, Option.bind_some, Option.bind_none, Option.bind_fun_some, F71_l0_lp]
theorem F71_con (k : Nat) (a0 : List (den rng)) (a1 : Int) : Contract Try.prog 71 (F71_a a0 a1) ⟨F71 k a0 a1, F71_r⟩ := con_of (envOk .none _ _ _ _) mixed Try.func71 rfl rfl (F71_ev k a0 a1 some)
def F71_sh : List AK := [.one (.b (.sl .own rng)), .one (.l (.int .i64))]
def F71_p (k : Nat) : List Arg → Option CR := cle F71_sh fun x => ⟨F71 k x.1 x.2.1, F71_r⟩
theorem F71_q (k : Nat) : ∀ xs cr, F71_p k xs = some cr → Contract Try.prog 71 xs cr := cle_ok fun x => F71_con k _ _
theorem F71_f : FnOk Try.prog 71 := .of (by kernel_rfl)
/-! 43: loop.example/netstack/laws.markByteS -/
def F43_h : Nat → Hint
  | 0 => ⟨[(0, .plain), (1, .plain), (5, .plain)], [(0, .plain)]⟩
  | _ => ⟨[], []⟩
abbrev F43_E (k : Nat) : Env := env noTab F43_h .own [(true, 0)] k
abbrev F43_a (a0 : List (den (.int .u8))) (a1 : Int) : List Arg := [.one (.b (.s .own (.int .u8) a0)), .one (.l (.v (.int .i64 a1)))]
def F43_r (r : Int × List (den (.int .u8))) : A × List (List Leaf) := (.one (.v (.int .i64 r.1)), [[.s .own (.int .u8) r.2]])
def F43_s0 (a0 : List (den (.int .u8))) (a1 : Int) (x1_0 x5_0 : Int) (m0_0 : List (den (.int .u8))) : St := ⟨(.one (.a (.cell 0) 0 0 none)) :: (.one (.v (.int .i64 x1_0))) :: dz 3 ((.one (.v (.int .i64 x5_0))) :: dz 14 []), [(0, ⟨.s .own (.int .u8) m0_0, 0, 0⟩)]⟩
def F43_l0_T {β : Type} (k : Nat) (a0 : List (den (.int .u8))) (a1 : Int) (NX : Int → Int → List (den (.int .u8)) → Option β) (RET : (Int × List (den (.int .u8))) → Option β) (x1_0 x5_0 : Int) (m0_0 : List (den (.int .u8))) : Option β := cond (decide (x5_0 < ((m0_0.length : Nat) : Int))) (cond (decide (0 ≤ x5_0)) (cond (decide (x5_0 < ((m0_0.length : Nat) : Int))) (NX (IntKind.i64.wrap (x1_0 + 1)) (IntKind.i64.wrap (x5_0 + 1)) (m0_0.set x5_0.toNat (IntKind.u8.wrap (x1_0)))) none) none) (RET (x1_0, m0_0))
def F43_l0 (k : Nat) (a0 : List (den (.int .u8))) (a1 : Int) : Nat → Int → Int → List (den (.int .u8)) → Option (Int × List (den (.int .u8)))
  | 0, _, _, _ => none
  | n + 1, x1_0, x5_0, m0_0 => F43_l0_T k a0 a1 (fun x1_0 x5_0 m0_0 => F43_l0 k a0 a1 n x1_0 x5_0 m0_0) some x1_0 x5_0 m0_0
theorem F43_l0_rd {β : Type} (k n : Nat) (a0 : List (den (.int .u8))) (a1 : Int) (x1_0 x5_0 : Int) (m0_0 : List (den (.int .u8))) (K : A × List (List Leaf) → Option β) :
    loopG (F43_E k) Try.f43 [1, 0, 1, 0] 0 (kontAt (F43_E k) [1, 0, 1, 0] (bodyOf Try.f43) 0 (endC (F43_E k) Try.f43 (F43_a a0 a1) K)) (n + 1) (F43_s0 a0 a1 x1_0 x5_0 m0_0) =
    F43_l0_T k a0 a1 (fun x1_0 x5_0 m0_0 => loopG (F43_E k) Try.f43 [1, 0, 1, 0] 0 (kontAt (F43_E k) [1, 0, 1, 0] (bodyOf Try.f43) 0 (endC (F43_E k) Try.f43 (F43_a a0 a1) K)) n (F43_s0 a0 a1 x1_0 x5_0 m0_0)) (fun r => K (F43_r r)) x1_0 x5_0 m0_0 := by kernel_rfl
theorem F43_l0_lp {β : Type} (k : Nat) (a0 : List (den (.int .u8))) (a1 : Int) (K : A × List (List Leaf) → Option β) (n : Nat) : ∀ (x1_0 x5_0 : Int) (m0_0 : List (den (.int .u8))), loopG (F43_E k) Try.f43 [1, 0, 1, 0] 0 (kontAt (F43_E k) [1, 0, 1, 0] (bodyOf Try.f43) 0 (endC (F43_E k) Try.f43 (F43_a a0 a1) K)) n (F43_s0 a0 a1 x1_0 x5_0 m0_0) =
    (F43_l0 k a0 a1 n x1_0 x5_0 m0_0).bind fun r => K (F43_r r) := by
  induction n with
  | zero => intros; rfl
  | succ n ih =>
    intros
    rw [F43_l0_rd, F43_l0]
    simp only [F43_l0_T, bind_cond, Option.bind_assoc, Option.bind_some, Option.bind_none, Option.bind_fun_some, ih]
def F43_T {β : Type} (k : Nat) (a0 : List (den (.int .u8))) (a1 : Int) (LP0 : Int → Int → List (den (.int .u8)) → Option β) : Option β := LP0 a1 0 a0
def F43 (k : Nat) (a0 : List (den (.int .u8))) (a1 : Int) : Option (Int × List (den (.int .u8))) := F43_T k a0 a1 (fun x1_0 x5_0 m0_0 => F43_l0 k a0 a1 k x1_0 x5_0 m0_0)
theorem F43_st {β : Type} (k : Nat) (a0 : List (den (.int .u8))) (a1 : Int) (K : A × List (List Leaf) → Option β) : evalF (F43_E k) Try.f43 (F43_a a0 a1) K =
    F43_T k a0 a1 (fun x1_0 x5_0 m0_0 => loopG (F43_E k) Try.f43 [1, 0, 1, 0] 0 (kontAt (F43_E k) [1, 0, 1, 0] (bodyOf Try.f43) 0 (endC (F43_E k) Try.f43 (F43_a a0 a1) K)) k (F43_s0 a0 a1 x1_0 x5_0 m0_0)) := by kernel_rfl
theorem F43_ev {β : Type} (k : Nat) (a0 : List (den (.int .u8))) (a1 : Int) (K : A × List (List Leaf) → Option β) : evalF (F43_E k) Try.f43 (F43_a a0 a1) K = (F43 k a0 a1).bind fun r => K (F43_r r) := by
  rw [F43_st, F43]
  simp only [F43_T, bind_cond, Option.bind_assoc, Option.bind_some, Option.bind_none, Option.bind_fun_some, F43_l0_lp]
theorem F43_con (k : Nat) (a0 : List (den (.int .u8))) (a1 : Int) : Contract Try.prog 43 (F43_a a0 a1) ⟨F43 k a0 a1, F43_r⟩ := con_of (envOk .none _ _ _ _) mixed Try.func43 rfl rfl (F43_ev k a0 a1 some)
def F43_sh : List AK := [.one (.b (.sl .own (.int .u8))), .one (.l (.int .i64))]
def F43_p (k : Nat) : List Arg → Option CR := cle F43_sh fun x => ⟨F43 k x.1 x.2.1, F43_r⟩
theorem F43_q (k : Nat) : ∀ xs cr, F43_p k xs = some cr → Contract Try.prog 43 xs cr := cle_ok fun x => F43_con k _ _
theorem F43_f : FnOk Try.prog 43 := .of (by kernel_rfl)
/-! 17: loop.example/netstack/laws.markSegment -/
def F17_t (k : Nat) : Tab := entT 71 (F71_p k) <| entT 43 (F43_p k) <| noTab
abbrev F17_E (k : Nat) : Env := env (F17_t k) noHint .own [(true, 9), (true, 10)] k
abbrev F17_a (a0_0 a0_1 a0_2 a0_3 a0_4 : Int) (a0_5 a0_6 a0_7 a0_8 : Bool) (a0_9 : List (den rng)) (a0_10 : List (den (.int .u8))) (a1 : Int) : List Arg := [.agg [.l (.v (.int .i64 a0_0)), .l (.v (.int .i64 a0_1)), .l (.v (.int .i64 a0_2)), .l (.v (.int .i64 a0_3)), .l (.v (.int .i64 a0_4)), .l (.v (.bool a0_5)), .l (.v (.bool a0_6)), .l (.v (.bool a0_7)), .l (.v (.bool a0_8)), .b (.s .own rng a0_9), .b (.s .own (.int .u8) a0_10)], .one (.l (.v (.int .i64 a1)))]
def F17_r (r : Int × List (den rng) × List (den (.int .u8))) : A × List (List Leaf) := (.one (.v (.int .i64 r.1)), [[.s .own rng r.2.1], [.s .own (.int .u8) r.2.2]])
def F17 (k : Nat) (a0_0 a0_1 a0_2 a0_3 a0_4 : Int) (a0_5 a0_6 a0_7 a0_8 : Bool) (a0_9 : List (den rng)) (a0_10 : List (den (.int .u8))) (a1 : Int) : Option (Int × List (den rng) × List (den (.int .u8))) := (F71 k a0_9 a1).bind fun b1 => (F43 k a0_10 b1.1).bind fun b2 => some (b2.1, b1.2, b2.2)
theorem F17_st {β : Type} (k : Nat) (a0_0 a0_1 a0_2 a0_3 a0_4 : Int) (a0_5 a0_6 a0_7 a0_8 : Bool) (a0_9 : List (den rng)) (a0_10 : List (den (.int .u8))) (a1 : Int) (K : A × List (List Leaf) → Option β) : evalF (F17_E k) Try.f17 (F17_a a0_0 a0_1 a0_2 a0_3 a0_4 a0_5 a0_6 a0_7 a0_8 a0_9 a0_10 a1) K =
    (F71 k a0_9 a1).bind fun b1 => (F43 k a0_10 b1.1).bind fun b2 => K (.one (.v (.int .i64 b2.1)), [[.s .own rng b1.2], [.s .own (.int .u8) b2.2]]) := by kernel_rfl
theorem F17_ev {β : Type} (k : Nat) (a0_0 a0_1 a0_2 a0_3 a0_4 : Int) (a0_5 a0_6 a0_7 a0_8 : Bool) (a0_9 : List (den rng)) (a0_10 : List (den (.int .u8))) (a1 : Int) (K : A × List (List Leaf) → Option β) : evalF (F17_E k) Try.f17 (F17_a a0_0 a0_1 a0_2 a0_3 a0_4 a0_5 a0_6 a0_7 a0_8 a0_9 a0_10 a1) K = (F17 k a0_0 a0_1 a0_2 a0_3 a0_4 a0_5 a0_6 a0_7 a0_8 a0_9 a0_10 a1).bind fun r => K (F17_r r) := by
  rw [F17_st, F17]
  simp only [F17_r, bind_cond, Option.bind_assoc, Option.bind_some, Option.bind_none, Option.bind_fun_some]
theorem F17_tOk (k : Nat) : TabFn Try.prog (F17_t k) := .ent (F71_q k) F71_f (.ent (F43_q k) F43_f (.none))
theorem F17_con (k : Nat) (a0_0 a0_1 a0_2 a0_3 a0_4 : Int) (a0_5 a0_6 a0_7 a0_8 : Bool) (a0_9 : List (den rng)) (a0_10 : List (den (.int .u8))) (a1 : Int) : Contract Try.prog 17 (F17_a a0_0 a0_1 a0_2 a0_3 a0_4 a0_5 a0_6 a0_7 a0_8 a0_9 a0_10 a1) ⟨F17 k a0_0 a0_1 a0_2 a0_3 a0_4 a0_5 a0_6 a0_7 a0_8 a0_9 a0_10 a1, F17_r⟩ := con_of (envOk (F17_tOk k) _ _ _ _) mixed Try.func17 rfl rfl (F17_ev k a0_0 a0_1 a0_2 a0_3 a0_4 a0_5 a0_6 a0_7 a0_8 a0_9 a0_10 a1 some)
def F17_sh : List AK := [.agg [.l (.int .i64), .l (.int .i64), .l (.int .i64), .l (.int .i64), .l (.int .i64), .l (.bool), .l (.bool), .l (.bool), .l (.bool), .b (.sl .own rng), .b (.sl .own (.int .u8))], .one (.l (.int .i64))]
def F17_p (k : Nat) : List Arg → Option CR := cle F17_sh fun x => ⟨F17 k x.1.1 x.1.2.1 x.1.2.2.1 x.1.2.2.2.1 x.1.2.2.2.2.1 x.1.2.2.2.2.2.1 x.1.2.2.2.2.2.2.1 x.1.2.2.2.2.2.2.2.1 x.1.2.2.2.2.2.2.2.2.1 x.1.2.2.2.2.2.2.2.2.2.1 x.1.2.2.2.2.2.2.2.2.2.2.1 x.2.1, F17_r⟩
theorem F17_q (k : Nat) : ∀ xs cr, F17_p k xs = some cr → Contract Try.prog 17 xs cr := cle_ok fun x => F17_con k _ _ _ _ _ _ _ _ _ _ _ _
theorem F17_f : FnOk Try.prog 17 := .of (by kernel_rfl)
/-! 72: loop.example/netstack/laws.heldRangeS -/
def F72_h : Nat → Hint
  | 0 => ⟨[(0, .plain), (1, .plain), (5, .plain)], []⟩
  | _ => ⟨[], []⟩
abbrev F72_E (k : Nat) : Env := env noTab F72_h .own [] k
abbrev F72_a (a0 : List (den rng)) (a1 : Int) : List Arg := [.one (.l (.s .ro rng a0)), .one (.l (.v (.int .i64 a1)))]
def F72_r (r : Int) : A × List (List Leaf) := (.one (.v (.int .i64 r)), [])
def F72_s0 (a0 : List (den rng)) (a1 : Int) (x1_0 x5_0 : Int) : St := ⟨(.one (.s .ro rng a0)) :: (.one (.v (.int .i64 x1_0))) :: dz 3 ((.one (.v (.int .i64 x5_0))) :: dz 25 []), []⟩
def F72_l0_T {β : Type} (k : Nat) (a0 : List (den rng)) (a1 : Int) (NX : Int → Int → Option β) (RET : Int → Option β) (x1_0 x5_0 : Int) : Option β := cond (decide (x5_0 < ((a0.length : Nat) : Int))) (cond (decide (0 ≤ x5_0)) (cond (decide (x5_0 < ((a0.length : Nat) : Int))) (cond (((atI a0 x5_0).1) != x1_0) (RET (-1)) (cond (decide (0 ≤ x5_0)) (cond (decide (x5_0 < ((a0.length : Nat) : Int))) (cond (((atI a0 x5_0).2) != (IntKind.i64.wrap (x1_0 + 1))) (RET (-1)) (NX (IntKind.i64.wrap ((IntKind.i64.wrap (x1_0 + 1)) + 1)) (IntKind.i64.wrap (x5_0 + 1)))) none) none)) none) none) (RET x1_0)
def F72_l0 (k : Nat) (a0 : List (den rng)) (a1 : Int) : Nat → Int → Int → Option (Int)
  | 0, _, _ => none
  | n + 1, x1_0, x5_0 => F72_l0_T k a0 a1 (fun x1_0 x5_0 => F72_l0 k a0 a1 n x1_0 x5_0) some x1_0 x5_0
theorem F72_l0_rd {β : Type} (k n : Nat) (a0 : List (den rng)) (a1 : Int) (x1_0 x5_0 : Int) (K : A × List (List Leaf) → Option β) :
    loopG (F72_E k) Try.f72 [1, 0, 1, 0] 0 (kontAt (F72_E k) [1, 0, 1, 0] (bodyOf Try.f72) 0 (endC (F72_E k) Try.f72 (F72_a a0 a1) K)) (n + 1) (F72_s0 a0 a1 x1_0 x5_0) =
    F72_l0_T k a0 a1 (fun x1_0 x5_0 => loopG (F72_E k) Try.f72 [1, 0, 1, 0] 0 (kontAt (F72_E k) [1, 0, 1, 0] (bodyOf Try.f72) 0 (endC (F72_E k) Try.f72 (F72_a a0 a1) K)) n (F72_s0 a0 a1 x1_0 x5_0)) (fun r => K (F72_r r)) x1_0 x5_0 := by kernel_rfl
theorem F72_l0_lp {β : Type} (k : Nat) (a0 : List (den rng)) (a1 : Int) (K : A × List (List Leaf) → Option β) (n : Nat) : ∀ (x1_0 x5_0 : Int), loopG (F72_E k) Try.f72 [1, 0, 1, 0] 0 (kontAt (F72_E k) [1, 0, 1, 0] (bodyOf Try.f72) 0 (endC (F72_E k) Try.f72 (F72_a a0 a1) K)) n (F72_s0 a0 a1 x1_0 x5_0) =
    (F72_l0 k a0 a1 n x1_0 x5_0).bind fun r => K (F72_r r) := by
  induction n with
  | zero => intros; rfl
  | succ n ih =>
    intros
    rw [F72_l0_rd, F72_l0]
    simp only [F72_l0_T, bind_cond, Option.bind_assoc, Option.bind_some, Option.bind_none, Option.bind_fun_some, ih]
def F72_T {β : Type} (k : Nat) (a0 : List (den rng)) (a1 : Int) (LP0 : Int → Int → Option β) : Option β := LP0 a1 0
def F72 (k : Nat) (a0 : List (den rng)) (a1 : Int) : Option (Int) := F72_T k a0 a1 (fun x1_0 x5_0 => F72_l0 k a0 a1 k x1_0 x5_0)
theorem F72_st {β : Type} (k : Nat) (a0 : List (den rng)) (a1 : Int) (K : A × List (List Leaf) → Option β) : evalF (F72_E k) Try.f72 (F72_a a0 a1) K =
    F72_T k a0 a1 (fun x1_0 x5_0 => loopG (F72_E k) Try.f72 [1, 0, 1, 0] 0 (kontAt (F72_E k) [1, 0, 1, 0] (bodyOf Try.f72) 0 (endC (F72_E k) Try.f72 (F72_a a0 a1) K)) k (F72_s0 a0 a1 x1_0 x5_0)) := by kernel_rfl
theorem F72_ev {β : Type} (k : Nat) (a0 : List (den rng)) (a1 : Int) (K : A × List (List Leaf) → Option β) : evalF (F72_E k) Try.f72 (F72_a a0 a1) K = (F72 k a0 a1).bind fun r => K (F72_r r) := by
  rw [F72_st, F72]
  simp only [F72_T, bind_cond, Option.bind_assoc, Option.bind_some, Option.bind_none, Option.bind_fun_some, F72_l0_lp]
theorem F72_con (k : Nat) (a0 : List (den rng)) (a1 : Int) : Contract Try.prog 72 (F72_a a0 a1) ⟨F72 k a0 a1, F72_r⟩ := con_of (envOk .none _ _ _ _) mixed Try.func72 rfl rfl (F72_ev k a0 a1 some)
def F72_sh : List AK := [.one (.l (.sl .ro rng)), .one (.l (.int .i64))]
def F72_p (k : Nat) : List Arg → Option CR := cle F72_sh fun x => ⟨F72 k x.1 x.2.1, F72_r⟩
theorem F72_q (k : Nat) : ∀ xs cr, F72_p k xs = some cr → Contract Try.prog 72 xs cr := cle_ok fun x => F72_con k _ _
theorem F72_f : FnOk Try.prog 72 := .of (by kernel_rfl)
/-! 73: loop.example/netstack/laws.heldByteS -/
def F73_h : Nat → Hint
  | 0 => ⟨[(0, .plain), (1, .plain), (5, .plain)], []⟩
  | _ => ⟨[], []⟩
abbrev F73_E (k : Nat) : Env := env noTab F73_h .own [] k
abbrev F73_a (a0 : List (den (.int .u8))) (a1 : Int) : List Arg := [.one (.l (.s .ro (.int .u8) a0)), .one (.l (.v (.int .i64 a1)))]
def F73_r (r : Int) : A × List (List Leaf) := (.one (.v (.int .i64 r)), [])
def F73_s0 (a0 : List (den (.int .u8))) (a1 : Int) (x1_0 x5_0 : Int) : St := ⟨(.one (.s .ro (.int .u8) a0)) :: (.one (.v (.int .i64 x1_0))) :: dz 3 ((.one (.v (.int .i64 x5_0))) :: dz 16 []), []⟩
def F73_l0_T {β : Type} (k : Nat) (a0 : List (den (.int .u8))) (a1 : Int) (NX : Int → Int → Option β) (RET : Int → Option β) (x1_0 x5_0 : Int) : Option β := cond (decide (x5_0 < ((a0.length : Nat) : Int))) (cond (decide (0 ≤ x5_0)) (cond (decide (x5_0 < ((a0.length : Nat) : Int))) (cond ((atI a0 x5_0) != (IntKind.u8.wrap (x1_0))) (RET (-1)) (NX (IntKind.i64.wrap (x1_0 + 1)) (IntKind.i64.wrap (x5_0 + 1)))) none) none) (RET x1_0)
def F73_l0 (k : Nat) (a0 : List (den (.int .u8))) (a1 : Int) : Nat → Int → Int → Option (Int)
  | 0, _, _ => none
  | n + 1, x1_0, x5_0 => F73_l0_T k a0 a1 (fun x1_0 x5_0 => F73_l0 k a0 a1 n x1_0 x5_0) some x1_0 x5_0
theorem F73_l0_rd {β : Type} (k n : Nat) (a0 : List (den (.int .u8))) (a1 : Int) (x1_0 x5_0 : Int) (K : A × List (List Leaf) → Option β) :
    loopG (F73_E k) Try.f73 [1, 0, 1, 0] 0 (kontAt (F73_E k) [1, 0, 1, 0] (bodyOf Try.f73) 0 (endC (F73_E k) Try.f73 (F73_a a0 a1) K)) (n + 1) (F73_s0 a0 a1 x1_0 x5_0) =
    F73_l0_T k a0 a1 (fun x1_0 x5_0 => loopG (F73_E k) Try.f73 [1, 0, 1, 0] 0 (kontAt (F73_E k) [1, 0, 1, 0] (bodyOf Try.f73) 0 (endC (F73_E k) Try.f73 (F73_a a0 a1) K)) n (F73_s0 a0 a1 x1_0 x5_0)) (fun r => K (F73_r r)) x1_0 x5_0 := by kernel_rfl
theorem F73_l0_lp {β : Type} (k : Nat) (a0 : List (den (.int .u8))) (a1 : Int) (K : A × List (List Leaf) → Option β) (n : Nat) : ∀ (x1_0 x5_0 : Int), loopG (F73_E k) Try.f73 [1, 0, 1, 0] 0 (kontAt (F73_E k) [1, 0, 1, 0] (bodyOf Try.f73) 0 (endC (F73_E k) Try.f73 (F73_a a0 a1) K)) n (F73_s0 a0 a1 x1_0 x5_0) =
    (F73_l0 k a0 a1 n x1_0 x5_0).bind fun r => K (F73_r r) := by
  induction n with
  | zero => intros; rfl
  | succ n ih =>
    intros
    rw [F73_l0_rd, F73_l0]
    simp only [F73_l0_T, bind_cond, Option.bind_assoc, Option.bind_some, Option.bind_none, Option.bind_fun_some, ih]
def F73_T {β : Type} (k : Nat) (a0 : List (den (.int .u8))) (a1 : Int) (LP0 : Int → Int → Option β) : Option β := LP0 a1 0
def F73 (k : Nat) (a0 : List (den (.int .u8))) (a1 : Int) : Option (Int) := F73_T k a0 a1 (fun x1_0 x5_0 => F73_l0 k a0 a1 k x1_0 x5_0)
theorem F73_st {β : Type} (k : Nat) (a0 : List (den (.int .u8))) (a1 : Int) (K : A × List (List Leaf) → Option β) : evalF (F73_E k) Try.f73 (F73_a a0 a1) K =
    F73_T k a0 a1 (fun x1_0 x5_0 => loopG (F73_E k) Try.f73 [1, 0, 1, 0] 0 (kontAt (F73_E k) [1, 0, 1, 0] (bodyOf Try.f73) 0 (endC (F73_E k) Try.f73 (F73_a a0 a1) K)) k (F73_s0 a0 a1 x1_0 x5_0)) := by kernel_rfl
theorem F73_ev {β : Type} (k : Nat) (a0 : List (den (.int .u8))) (a1 : Int) (K : A × List (List Leaf) → Option β) : evalF (F73_E k) Try.f73 (F73_a a0 a1) K = (F73 k a0 a1).bind fun r => K (F73_r r) := by
  rw [F73_st, F73]
  simp only [F73_T, bind_cond, Option.bind_assoc, Option.bind_some, Option.bind_none, Option.bind_fun_some, F73_l0_lp]
theorem F73_con (k : Nat) (a0 : List (den (.int .u8))) (a1 : Int) : Contract Try.prog 73 (F73_a a0 a1) ⟨F73 k a0 a1, F73_r⟩ := con_of (envOk .none _ _ _ _) mixed Try.func73 rfl rfl (F73_ev k a0 a1 some)
def F73_sh : List AK := [.one (.l (.sl .ro (.int .u8))), .one (.l (.int .i64))]
def F73_p (k : Nat) : List Arg → Option CR := cle F73_sh fun x => ⟨F73 k x.1 x.2.1, F73_r⟩
theorem F73_q (k : Nat) : ∀ xs cr, F73_p k xs = some cr → Contract Try.prog 73 xs cr := cle_ok fun x => F73_con k _ _
theorem F73_f : FnOk Try.prog 73 := .of (by kernel_rfl)
/-! 18: loop.example/netstack/laws.heldSegment -/
def F18_t (k : Nat) : Tab := entT 72 (F72_p k) <| entT 73 (F73_p k) <| noTab
abbrev F18_E (k : Nat) : Env := env (F18_t k) noHint .own [] k
abbrev F18_a (a0_0 a0_1 a0_2 a0_3 a0_4 : Int) (a0_5 a0_6 a0_7 a0_8 : Bool) (a0_9 : List (den rng)) (a0_10 : List (den (.int .u8))) (a1 : Int) : List Arg := [.agg [.l (.v (.int .i64 a0_0)), .l (.v (.int .i64 a0_1)), .l (.v (.int .i64 a0_2)), .l (.v (.int .i64 a0_3)), .l (.v (.int .i64 a0_4)), .l (.v (.bool a0_5)), .l (.v (.bool a0_6)), .l (.v (.bool a0_7)), .l (.v (.bool a0_8)), .l (.s .ro rng a0_9), .l (.s .ro (.int .u8) a0_10)], .one (.l (.v (.int .i64 a1)))]
def F18_r (r : Int) : A × List (List Leaf) := (.one (.v (.int .i64 r)), [])
def F18_T {β : Type} (k : Nat) (a0_0 a0_1 a0_2 a0_3 a0_4 : Int) (a0_5 a0_6 a0_7 a0_8 : Bool) (a0_9 : List (den rng)) (a0_10 : List (den (.int .u8))) (a1 : Int) (RET : Int → Option β) : Option β := (F72 k a0_9 a1).bind fun b1 => cond (decide (b1 < 0)) (RET (-1)) ((F73 k a0_10 b1).bind fun b2 => cond (decide (b2 < 0)) (RET (-1)) (RET b2))
def F18 (k : Nat) (a0_0 a0_1 a0_2 a0_3 a0_4 : Int) (a0_5 a0_6 a0_7 a0_8 : Bool) (a0_9 : List (den rng)) (a0_10 : List (den (.int .u8))) (a1 : Int) : Option (Int) := F18_T k a0_0 a0_1 a0_2 a0_3 a0_4 a0_5 a0_6 a0_7 a0_8 a0_9 a0_10 a1 some
theorem F18_st {β : Type} (k : Nat) (a0_0 a0_1 a0_2 a0_3 a0_4 : Int) (a0_5 a0_6 a0_7 a0_8 : Bool) (a0_9 : List (den rng)) (a0_10 : List (den (.int .u8))) (a1 : Int) (K : A × List (List Leaf) → Option β) : evalF (F18_E k) Try.f18 (F18_a a0_0 a0_1 a0_2 a0_3 a0_4 a0_5 a0_6 a0_7 a0_8 a0_9 a0_10 a1) K =
    F18_T k a0_0 a0_1 a0_2 a0_3 a0_4 a0_5 a0_6 a0_7 a0_8 a0_9 a0_10 a1 (fun r => K (F18_r r)) := by kernel_rfl
theorem F18_ev {β : Type} (k : Nat) (a0_0 a0_1 a0_2 a0_3 a0_4 : Int) (a0_5 a0_6 a0_7 a0_8 : Bool) (a0_9 : List (den rng)) (a0_10 : List (den (.int .u8))) (a1 : Int) (K : A × List (List Leaf) → Option β) : evalF (F18_E k) Try.f18 (F18_a a0_0 a0_1 a0_2 a0_3 a0_4 a0_5 a0_6 a0_7 a0_8 a0_9 a0_10 a1) K = (F18 k a0_0 a0_1 a0_2 a0_3 a0_4 a0_5 a0_6 a0_7 a0_8 a0_9 a0_10 a1).bind fun r => K (F18_r r) := by
  rw [F18_st, F18]
  simp only [F18_T, bind_cond, Option.bind_assoc, Option.bind_some, Option.bind_none, Option.bind_fun_some]
theorem F18_tOk (k : Nat) : TabFn Try.prog (F18_t k) := .ent (F72_q k) F72_f (.ent (F73_q k) F73_f (.none))
theorem F18_con (k : Nat) (a0_0 a0_1 a0_2 a0_3 a0_4 : Int) (a0_5 a0_6 a0_7 a0_8 : Bool) (a0_9 : List (den rng)) (a0_10 : List (den (.int .u8))) (a1 : Int) : Contract Try.prog 18 (F18_a a0_0 a0_1 a0_2 a0_3 a0_4 a0_5 a0_6 a0_7 a0_8 a0_9 a0_10 a1) ⟨F18 k a0_0 a0_1 a0_2 a0_3 a0_4 a0_5 a0_6 a0_7 a0_8 a0_9 a0_10 a1, F18_r⟩ := con_of (envOk (F18_tOk k) _ _ _ _) mixed Try.func18 rfl rfl (F18_ev k a0_0 a0_1 a0_2 a0_3 a0_4 a0_5 a0_6 a0_7 a0_8 a0_9 a0_10 a1 some)
def F18_sh : List AK := [.agg [.l (.int .i64), .l (.int .i64), .l (.int .i64), .l (.int .i64), .l (.int .i64), .l (.bool), .l (.bool), .l (.bool), .l (.bool), .l (.sl .ro rng), .l (.sl .ro (.int .u8))], .one (.l (.int .i64))]
def F18_p (k : Nat) : List Arg → Option CR := cle F18_sh fun x => ⟨F18 k x.1.1 x.1.2.1 x.1.2.2.1 x.1.2.2.2.1 x.1.2.2.2.2.1 x.1.2.2.2.2.2.1 x.1.2.2.2.2.2.2.1 x.1.2.2.2.2.2.2.2.1 x.1.2.2.2.2.2.2.2.2.1 x.1.2.2.2.2.2.2.2.2.2.1 x.1.2.2.2.2.2.2.2.2.2.2.1 x.2.1, F18_r⟩
theorem F18_q (k : Nat) : ∀ xs cr, F18_p k xs = some cr → Contract Try.prog 18 xs cr := cle_ok fun x => F18_con k _ _ _ _ _ _ _ _ _ _ _ _
theorem F18_f : FnOk Try.prog 18 := .of (by kernel_rfl)
/-! 3: loop.example/netstack/laws.FnExactSegmentJoin -/
def F3_t (k : Nat) : Tab := entT 12 (F12_p k) <| entT 14 (F14_p k) <| entT 13 (F13_p k) <| entT 15 (F15_p k) <| entT 16 (F16_p k) <| entT 17 (F17_p k) <| entT 18 (F18_p k) <| noTab
abbrev F3_E (k : Nat) : Env := env (F3_t k) noHint .own [] k
abbrev F3_a (a0_0 a0_1 a0_2 a0_3 a0_4 : Int) (a0_5 a0_6 a0_7 a0_8 : Bool) (a0_9 : List (den rng)) (a0_10 : List (den (.int .u8))) (a1_0 a1_1 a1_2 a1_3 a1_4 : Int) (a1_5 a1_6 a1_7 a1_8 : Bool) (a1_9 : List (den rng)) (a1_10 : List (den (.int .u8))) : List Arg := [.agg [.l (.v (.int .i64 a0_0)), .l (.v (.int .i64 a0_1)), .l (.v (.int .i64 a0_2)), .l (.v (.int .i64 a0_3)), .l (.v (.int .i64 a0_4)), .l (.v (.bool a0_5)), .l (.v (.bool a0_6)), .l (.v (.bool a0_7)), .l (.v (.bool a0_8)), .l (.s .ro rng a0_9), .l (.s .ro (.int .u8) a0_10)], .agg [.l (.v (.int .i64 a1_0)), .l (.v (.int .i64 a1_1)), .l (.v (.int .i64 a1_2)), .l (.v (.int .i64 a1_3)), .l (.v (.int .i64 a1_4)), .l (.v (.bool a1_5)), .l (.v (.bool a1_6)), .l (.v (.bool a1_7)), .l (.v (.bool a1_8)), .l (.s .ro rng a1_9), .l (.s .ro (.int .u8) a1_10)]]
def F3_r (r : Bool) : A × List (List Leaf) := (.one (.v (.bool r)), [])
def F3_T {β : Type} (k : Nat) (a0_0 a0_1 a0_2 a0_3 a0_4 : Int) (a0_5 a0_6 a0_7 a0_8 : Bool) (a0_9 : List (den rng)) (a0_10 : List (den (.int .u8))) (a1_0 a1_1 a1_2 a1_3 a1_4 : Int) (a1_5 a1_6 a1_7 a1_8 : Bool) (a1_9 : List (den rng)) (a1_10 : List (den (.int .u8))) (RET : Bool → Option β) : Option β := (F12 k a0_0 a0_1 a0_2 a0_3 a0_4 a0_5 a0_6 a0_7 a0_8 a0_9 a0_10 1048576).bind fun b1 => cond (decide (b1 < 0)) (RET true) ((F12 k a1_0 a1_1 a1_2 a1_3 a1_4 a1_5 a1_6 a1_7 a1_8 a1_9 a1_10 b1).bind fun b2 => cond (decide (b2 < 0)) (RET true) ((F14 k a0_0 a0_1 a0_2 a0_3 a0_4 a0_5 a0_6 a0_7 a0_8 a0_9 a0_10).bind fun b3 => (F14 k a1_0 a1_1 a1_2 a1_3 a1_4 a1_5 a1_6 a1_7 a1_8 a1_9 a1_10).bind fun b4 => (F13 k b3.1 b3.2.1 b3.2.2.1 b3.2.2.2.1 b3.2.2.2.2.1 b3.2.2.2.2.2.1 b3.2.2.2.2.2.2.1 b3.2.2.2.2.2.2.2.1 b3.2.2.2.2.2.2.2.2.1 b3.2.2.2.2.2.2.2.2.2.1 b3.2.2.2.2.2.2.2.2.2.2 b4.1 b4.2.1 b4.2.2.1 b4.2.2.2.1 b4.2.2.2.2.1 b4.2.2.2.2.2.1 b4.2.2.2.2.2.2.1 b4.2.2.2.2.2.2.2.1 b4.2.2.2.2.2.2.2.2.1 b4.2.2.2.2.2.2.2.2.2.1 b4.2.2.2.2.2.2.2.2.2.2).bind fun b5 => (F14 k a0_0 a0_1 a0_2 a0_3 a0_4 a0_5 a0_6 a0_7 a0_8 a0_9 a0_10).bind fun b6 => (F14 k a1_0 a1_1 a1_2 a1_3 a1_4 a1_5 a1_6 a1_7 a1_8 a1_9 a1_10).bind fun b7 => (F15 k b6.1 b6.2.1 b6.2.2.1 b6.2.2.2.1 b6.2.2.2.2.1 b6.2.2.2.2.2.1 b6.2.2.2.2.2.2.1 b6.2.2.2.2.2.2.2.1 b6.2.2.2.2.2.2.2.2.1 b6.2.2.2.2.2.2.2.2.2.1 b6.2.2.2.2.2.2.2.2.2.2 b7.1 b7.2.1 b7.2.2.1 b7.2.2.2.1 b7.2.2.2.2.1 b7.2.2.2.2.2.1 b7.2.2.2.2.2.2.1 b7.2.2.2.2.2.2.2.1 b7.2.2.2.2.2.2.2.2.1 b7.2.2.2.2.2.2.2.2.2.1 b7.2.2.2.2.2.2.2.2.2.2).bind fun b8 => (F16 k b8.1 b8.2.1 b8.2.2.1 b8.2.2.2.1 b8.2.2.2.2.1 b8.2.2.2.2.2.1 b8.2.2.2.2.2.2.1 b8.2.2.2.2.2.2.2.1 b8.2.2.2.2.2.2.2.2.1 b8.2.2.2.2.2.2.2.2.2.1 b8.2.2.2.2.2.2.2.2.2.2.1 b5.1 b5.2.1 b5.2.2.1 b5.2.2.2.1 b5.2.2.2.2.1 b5.2.2.2.2.2.1 b5.2.2.2.2.2.2.1 b5.2.2.2.2.2.2.2.1 b5.2.2.2.2.2.2.2.2.1 b5.2.2.2.2.2.2.2.2.2.1 b5.2.2.2.2.2.2.2.2.2.2.1).bind fun b9 => cond (!b9) (RET false) (cond (!(b8.2.2.2.2.2.2.2.2.2.2.2 == b5.2.2.2.2.2.2.2.2.2.2.2)) (RET false) ((F14 k a0_0 a0_1 a0_2 a0_3 a0_4 a0_5 a0_6 a0_7 a0_8 a0_9 a0_10).bind fun b10 => (F16 k b6.1 b6.2.1 b6.2.2.1 b6.2.2.2.1 b6.2.2.2.2.1 b6.2.2.2.2.2.1 b6.2.2.2.2.2.2.1 b6.2.2.2.2.2.2.2.1 b6.2.2.2.2.2.2.2.2.1 b6.2.2.2.2.2.2.2.2.2.1 b6.2.2.2.2.2.2.2.2.2.2 b10.1 b10.2.1 b10.2.2.1 b10.2.2.2.1 b10.2.2.2.2.1 b10.2.2.2.2.2.1 b10.2.2.2.2.2.2.1 b10.2.2.2.2.2.2.2.1 b10.2.2.2.2.2.2.2.2.1 b10.2.2.2.2.2.2.2.2.2.1 b10.2.2.2.2.2.2.2.2.2.2).bind fun b11 => cond (!b11) (RET false) ((F14 k a1_0 a1_1 a1_2 a1_3 a1_4 a1_5 a1_6 a1_7 a1_8 a1_9 a1_10).bind fun b12 => (F16 k b7.1 b7.2.1 b7.2.2.1 b7.2.2.2.1 b7.2.2.2.2.1 b7.2.2.2.2.2.1 b7.2.2.2.2.2.2.1 b7.2.2.2.2.2.2.2.1 b7.2.2.2.2.2.2.2.2.1 b7.2.2.2.2.2.2.2.2.2.1 b7.2.2.2.2.2.2.2.2.2.2 b12.1 b12.2.1 b12.2.2.1 b12.2.2.2.1 b12.2.2.2.2.1 b12.2.2.2.2.2.1 b12.2.2.2.2.2.2.1 b12.2.2.2.2.2.2.2.1 b12.2.2.2.2.2.2.2.2.1 b12.2.2.2.2.2.2.2.2.2.1 b12.2.2.2.2.2.2.2.2.2.2).bind fun b13 => cond (!b13) (RET false) ((F17 k b6.1 b6.2.1 b6.2.2.1 b6.2.2.2.1 b6.2.2.2.2.1 b6.2.2.2.2.2.1 b6.2.2.2.2.2.2.1 b6.2.2.2.2.2.2.2.1 b6.2.2.2.2.2.2.2.2.1 b6.2.2.2.2.2.2.2.2.2.1 b6.2.2.2.2.2.2.2.2.2.2 1).bind fun b14 => (F17 k b7.1 b7.2.1 b7.2.2.1 b7.2.2.2.1 b7.2.2.2.2.1 b7.2.2.2.2.2.1 b7.2.2.2.2.2.2.1 b7.2.2.2.2.2.2.2.1 b7.2.2.2.2.2.2.2.2.1 b7.2.2.2.2.2.2.2.2.2.1 b7.2.2.2.2.2.2.2.2.2.2 b14.1).bind fun b15 => cond (decide (b15.1 < 0)) (RET false) ((F16 k b8.1 b8.2.1 b8.2.2.1 b8.2.2.2.1 b8.2.2.2.2.1 b8.2.2.2.2.2.1 b8.2.2.2.2.2.2.1 b8.2.2.2.2.2.2.2.1 b8.2.2.2.2.2.2.2.2.1 b8.2.2.2.2.2.2.2.2.2.1 b8.2.2.2.2.2.2.2.2.2.2.1 b5.1 b5.2.1 b5.2.2.1 b5.2.2.2.1 b5.2.2.2.2.1 b5.2.2.2.2.2.1 b5.2.2.2.2.2.2.1 b5.2.2.2.2.2.2.2.1 b5.2.2.2.2.2.2.2.2.1 b5.2.2.2.2.2.2.2.2.2.1 b5.2.2.2.2.2.2.2.2.2.2.1).bind fun b16 => cond (!b16) (RET false) (cond (!(b8.2.2.2.2.2.2.2.2.2.2.2 == b5.2.2.2.2.2.2.2.2.2.2.2)) (RET false) ((F17 k b8.1 b8.2.1 b8.2.2.1 b8.2.2.2.1 b8.2.2.2.2.1 b8.2.2.2.2.2.1 b8.2.2.2.2.2.2.1 b8.2.2.2.2.2.2.2.1 b8.2.2.2.2.2.2.2.2.1 b8.2.2.2.2.2.2.2.2.2.1 b8.2.2.2.2.2.2.2.2.2.2.1 1).bind fun b17 => (F18 k b8.1 b8.2.1 b8.2.2.1 b8.2.2.2.1 b8.2.2.2.2.1 b8.2.2.2.2.2.1 b8.2.2.2.2.2.2.1 b8.2.2.2.2.2.2.2.1 b8.2.2.2.2.2.2.2.2.1 b17.2.1 b17.2.2 1).bind fun b18 => cond (decide (b18 < 0)) (RET false) (cond (b18 != b17.1) (RET false) ((F14 k a0_0 a0_1 a0_2 a0_3 a0_4 a0_5 a0_6 a0_7 a0_8 a0_9 a0_10).bind fun b19 => (F14 k a1_0 a1_1 a1_2 a1_3 a1_4 a1_5 a1_6 a1_7 a1_8 a1_9 a1_10).bind fun b20 => (F15 k b19.1 b19.2.1 b19.2.2.1 b19.2.2.2.1 b19.2.2.2.2.1 b19.2.2.2.2.2.1 b19.2.2.2.2.2.2.1 b19.2.2.2.2.2.2.2.1 b19.2.2.2.2.2.2.2.2.1 b19.2.2.2.2.2.2.2.2.2.1 b19.2.2.2.2.2.2.2.2.2.2 b20.1 b20.2.1 b20.2.2.1 b20.2.2.2.1 b20.2.2.2.2.1 b20.2.2.2.2.2.1 b20.2.2.2.2.2.2.1 b20.2.2.2.2.2.2.2.1 b20.2.2.2.2.2.2.2.2.1 b20.2.2.2.2.2.2.2.2.2.1 b20.2.2.2.2.2.2.2.2.2.2).bind fun b21 => (F16 k b21.1 b21.2.1 b21.2.2.1 b21.2.2.2.1 b21.2.2.2.2.1 b21.2.2.2.2.2.1 b21.2.2.2.2.2.2.1 b21.2.2.2.2.2.2.2.1 b21.2.2.2.2.2.2.2.2.1 b21.2.2.2.2.2.2.2.2.2.1 b21.2.2.2.2.2.2.2.2.2.2.1 b5.1 b5.2.1 b5.2.2.1 b5.2.2.2.1 b5.2.2.2.2.1 b5.2.2.2.2.2.1 b5.2.2.2.2.2.2.1 b5.2.2.2.2.2.2.2.1 b5.2.2.2.2.2.2.2.2.1 b5.2.2.2.2.2.2.2.2.2.1 b5.2.2.2.2.2.2.2.2.2.2.1).bind fun b22 => cond (!b22) (RET false) (cond (!(b21.2.2.2.2.2.2.2.2.2.2.2 == b5.2.2.2.2.2.2.2.2.2.2.2)) (RET false) ((F18 k b8.1 b8.2.1 b8.2.2.1 b8.2.2.2.1 b8.2.2.2.2.1 b8.2.2.2.2.2.1 b8.2.2.2.2.2.2.1 b8.2.2.2.2.2.2.2.1 b8.2.2.2.2.2.2.2.2.1 b17.2.1 b17.2.2 1).bind fun b23 => cond (decide (b23 < 0)) (RET false) (cond (b23 != b17.1) (RET false) (RET true)))))))))))))))
def F3 (k : Nat) (a0_0 a0_1 a0_2 a0_3 a0_4 : Int) (a0_5 a0_6 a0_7 a0_8 : Bool) (a0_9 : List (den rng)) (a0_10 : List (den (.int .u8))) (a1_0 a1_1 a1_2 a1_3 a1_4 : Int) (a1_5 a1_6 a1_7 a1_8 : Bool) (a1_9 : List (den rng)) (a1_10 : List (den (.int .u8))) : Option (Bool) := F3_T k a0_0 a0_1 a0_2 a0_3 a0_4 a0_5 a0_6 a0_7 a0_8 a0_9 a0_10 a1_0 a1_1 a1_2 a1_3 a1_4 a1_5 a1_6 a1_7 a1_8 a1_9 a1_10 some
theorem F3_st {β : Type} (k : Nat) (a0_0 a0_1 a0_2 a0_3 a0_4 : Int) (a0_5 a0_6 a0_7 a0_8 : Bool) (a0_9 : List (den rng)) (a0_10 : List (den (.int .u8))) (a1_0 a1_1 a1_2 a1_3 a1_4 : Int) (a1_5 a1_6 a1_7 a1_8 : Bool) (a1_9 : List (den rng)) (a1_10 : List (den (.int .u8))) (K : A × List (List Leaf) → Option β) : evalF (F3_E k) Try.f3 (F3_a a0_0 a0_1 a0_2 a0_3 a0_4 a0_5 a0_6 a0_7 a0_8 a0_9 a0_10 a1_0 a1_1 a1_2 a1_3 a1_4 a1_5 a1_6 a1_7 a1_8 a1_9 a1_10) K =
    F3_T k a0_0 a0_1 a0_2 a0_3 a0_4 a0_5 a0_6 a0_7 a0_8 a0_9 a0_10 a1_0 a1_1 a1_2 a1_3 a1_4 a1_5 a1_6 a1_7 a1_8 a1_9 a1_10 (fun r => K (F3_r r)) := by kernel_rfl
theorem F3_ev {β : Type} (k : Nat) (a0_0 a0_1 a0_2 a0_3 a0_4 : Int) (a0_5 a0_6 a0_7 a0_8 : Bool) (a0_9 : List (den rng)) (a0_10 : List (den (.int .u8))) (a1_0 a1_1 a1_2 a1_3 a1_4 : Int) (a1_5 a1_6 a1_7 a1_8 : Bool) (a1_9 : List (den rng)) (a1_10 : List (den (.int .u8))) (K : A × List (List Leaf) → Option β) : evalF (F3_E k) Try.f3 (F3_a a0_0 a0_1 a0_2 a0_3 a0_4 a0_5 a0_6 a0_7 a0_8 a0_9 a0_10 a1_0 a1_1 a1_2 a1_3 a1_4 a1_5 a1_6 a1_7 a1_8 a1_9 a1_10) K = (F3 k a0_0 a0_1 a0_2 a0_3 a0_4 a0_5 a0_6 a0_7 a0_8 a0_9 a0_10 a1_0 a1_1 a1_2 a1_3 a1_4 a1_5 a1_6 a1_7 a1_8 a1_9 a1_10).bind fun r => K (F3_r r) := by
  rw [F3_st, F3]
  simp only [F3_T, bind_cond, Option.bind_assoc, Option.bind_some, Option.bind_none, Option.bind_fun_some]
theorem F3_tOk (k : Nat) : TabFn Try.prog (F3_t k) := .ent (F12_q k) F12_f (.ent (F14_q k) F14_f (.ent (F13_q k) F13_f (.ent (F15_q k) F15_f (.ent (F16_q k) F16_f (.ent (F17_q k) F17_f (.ent (F18_q k) F18_f (.none)))))))
theorem F3_con (k : Nat) (a0_0 a0_1 a0_2 a0_3 a0_4 : Int) (a0_5 a0_6 a0_7 a0_8 : Bool) (a0_9 : List (den rng)) (a0_10 : List (den (.int .u8))) (a1_0 a1_1 a1_2 a1_3 a1_4 : Int) (a1_5 a1_6 a1_7 a1_8 : Bool) (a1_9 : List (den rng)) (a1_10 : List (den (.int .u8))) : Contract Try.prog 3 (F3_a a0_0 a0_1 a0_2 a0_3 a0_4 a0_5 a0_6 a0_7 a0_8 a0_9 a0_10 a1_0 a1_1 a1_2 a1_3 a1_4 a1_5 a1_6 a1_7 a1_8 a1_9 a1_10) ⟨F3 k a0_0 a0_1 a0_2 a0_3 a0_4 a0_5 a0_6 a0_7 a0_8 a0_9 a0_10 a1_0 a1_1 a1_2 a1_3 a1_4 a1_5 a1_6 a1_7 a1_8 a1_9 a1_10, F3_r⟩ := con_of (envOk (F3_tOk k) _ _ _ _) mixed Try.func3 rfl rfl (F3_ev k a0_0 a0_1 a0_2 a0_3 a0_4 a0_5 a0_6 a0_7 a0_8 a0_9 a0_10 a1_0 a1_1 a1_2 a1_3 a1_4 a1_5 a1_6 a1_7 a1_8 a1_9 a1_10 some)
def F3_sh : List AK := [.agg [.l (.int .i64), .l (.int .i64), .l (.int .i64), .l (.int .i64), .l (.int .i64), .l (.bool), .l (.bool), .l (.bool), .l (.bool), .l (.sl .ro rng), .l (.sl .ro (.int .u8))], .agg [.l (.int .i64), .l (.int .i64), .l (.int .i64), .l (.int .i64), .l (.int .i64), .l (.bool), .l (.bool), .l (.bool), .l (.bool), .l (.sl .ro rng), .l (.sl .ro (.int .u8))]]
def F3_p (k : Nat) : List Arg → Option CR := cle F3_sh fun x => ⟨F3 k x.1.1 x.1.2.1 x.1.2.2.1 x.1.2.2.2.1 x.1.2.2.2.2.1 x.1.2.2.2.2.2.1 x.1.2.2.2.2.2.2.1 x.1.2.2.2.2.2.2.2.1 x.1.2.2.2.2.2.2.2.2.1 x.1.2.2.2.2.2.2.2.2.2.1 x.1.2.2.2.2.2.2.2.2.2.2.1 x.2.1.1 x.2.1.2.1 x.2.1.2.2.1 x.2.1.2.2.2.1 x.2.1.2.2.2.2.1 x.2.1.2.2.2.2.2.1 x.2.1.2.2.2.2.2.2.1 x.2.1.2.2.2.2.2.2.2.1 x.2.1.2.2.2.2.2.2.2.2.1 x.2.1.2.2.2.2.2.2.2.2.2.1 x.2.1.2.2.2.2.2.2.2.2.2.2.1, F3_r⟩
theorem F3_q (k : Nat) : ∀ xs cr, F3_p k xs = some cr → Contract Try.prog 3 xs cr := cle_ok fun x => F3_con k _ _ _ _ _ _ _ _ _ _ _ _ _ _ _ _ _ _ _ _ _ _
theorem F3_f : FnOk Try.prog 3 := .of (by kernel_rfl)
end Go.Proofs.Ytkkgcidigiokfaa.Gn
end
