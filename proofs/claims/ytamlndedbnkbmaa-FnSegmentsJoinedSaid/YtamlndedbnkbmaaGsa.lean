/-
  The functions that the law reaches, as plain Lean functions, and their contracts. (A part of the proofs of this seat.)
-/
import Derived.Test.YtamlndedbnkbmaaChecked
import Derived.Test.YtamlndedbnkbmaaRc
import Derived.KernelRfl

section
set_option linter.unusedVariables false
set_option linter.unusedSimpArgs false
/-
  The functions that the laws over joined segments reach, as plain functions (printed by rfgen.py).
-/
namespace Go.Proofs.Ytamlndedbnkbmaa.Gn
open Go.Rf
abbrev rng : Ty := (.pair (.int .i64) (.int .i64))
abbrev seg : Ty := (.pair (.int .i64) (.pair (.int .i64) (.pair (.int .i64) (.pair (.int .i64) (.pair (.int .i64) (.pair .bool (.pair .bool (.pair .bool (.pair .bool (.pair (.sl rng) (.sl (.int .u8))))))))))))
def tyT : List (Nat × TyI) := [(3, ⟨(.int .i64), false, 0⟩), (4, ⟨.bool, false, 0⟩), (5, ⟨(.int .u8), false, 0⟩), (9, ⟨.str, false, 0⟩), (22, ⟨(.sl (.int .u8)), false, 1⟩), (23, ⟨(.sl seg), false, 96⟩), (28, ⟨(.sl rng), false, 16⟩), (30, ⟨seg, true, 0⟩), (56, ⟨rng, true, 0⟩), (69, ⟨(.pair (.sl (.int .u8)) (.int .i64)), true, 0⟩), (75, ⟨(.sl (.sl (.int .u8))), false, 24⟩), (79, ⟨(.sl (.int .i64)), false, 8⟩)]
def fldT : FldT := [(30, [(0, 1, false), (1, 1, false), (2, 1, false), (3, 1, false), (4, 1, false), (5, 1, false), (6, 1, false), (7, 1, false), (8, 1, false), (9, 1, false), (10, 1, false)]), (56, [(0, 1, false), (1, 1, false)]), (69, [(0, 1, false), (1, 1, false)])]
def eqT : List Nat := [56]
def env (tab : Tab) (hint : Nat → Hint) (rm : Rf.Mode) (pins : List (Bool × Nat)) (k : Nat) : Env :=
  { tab := tab, lend := (fun f => cond (Nat.beq f 67) [true] (cond (Nat.beq f 66) [true] (cond (Nat.beq f 25) [true] ([])))), lent := (fun f => cond (Nat.beq f 17) [true] (cond (Nat.beq f 44) [true] (cond (Nat.beq f 43) [true] ([])))), pins := pins, ty := asc tyT, fld := fldOf fldT, pw := fun _ => none, cw := fun _ => [], hint := hint, eqt := hasK eqT, rm := rm, fuel := k }
theorem tyOk : AllT (TyOk Try.prog) tyT :=
  ⟨.ofInt (b := 8) (by kernel_rfl) (by kernel_rfl), .ofBool (b := 1) (by kernel_rfl) (by kernel_rfl), .ofInt (b := 1) (by kernel_rfl) (by kernel_rfl), .ofStr (b := 16) (by kernel_rfl) (by kernel_rfl), .ofSl (te := 5) (b := 24) (by kernel_rfl) (by kernel_rfl) (by kernel_rfl) (fun _ h => by cases h; kernel_rfl), .ofSl (te := 30) (b := 24) (by kernel_rfl) (by kernel_rfl) (by kernel_rfl) nofun, .ofSl (te := 56) (b := 24) (by kernel_rfl) (by kernel_rfl) (by kernel_rfl) nofun, .ofAgg (b := 96) (by kernel_rfl) (by kernel_rfl), .ofAgg (b := 16) (by kernel_rfl) (by kernel_rfl), .ofAgg (b := 32) (by kernel_rfl) (by kernel_rfl), .ofSl (te := 22) (b := 24) (by kernel_rfl) (by kernel_rfl) (by kernel_rfl) nofun, .ofSl (te := 3) (b := 24) (by kernel_rfl) (by kernel_rfl) (by kernel_rfl) (fun _ h => by cases h; kernel_rfl), trivial⟩
theorem fldOk : AllF Try.prog fldT :=
  ⟨⟨⟨by kernel_rfl, by kernel_rfl⟩, ⟨by kernel_rfl, by kernel_rfl⟩, ⟨by kernel_rfl, by kernel_rfl⟩, ⟨by kernel_rfl, by kernel_rfl⟩, ⟨by kernel_rfl, by kernel_rfl⟩, ⟨by kernel_rfl, by kernel_rfl⟩, ⟨by kernel_rfl, by kernel_rfl⟩, ⟨by kernel_rfl, by kernel_rfl⟩, ⟨by kernel_rfl, by kernel_rfl⟩, ⟨by kernel_rfl, by kernel_rfl⟩, ⟨by kernel_rfl, by kernel_rfl⟩, trivial⟩, ⟨⟨by kernel_rfl, by kernel_rfl⟩, ⟨by kernel_rfl, by kernel_rfl⟩, trivial⟩, ⟨⟨by kernel_rfl, by kernel_rfl⟩, ⟨by kernel_rfl, by kernel_rfl⟩, trivial⟩, trivial⟩
theorem mixed : Try.prog.follows .mixedOrders = true := by kernel_rfl
theorem bldOk : AllT (fun t i => i.agg = true → BldOk Try.prog t (fldOf fldT t)) tyT :=
  ⟨nofun, nofun, nofun, nofun, nofun, nofun, nofun, fun _ => bld_of (row := [(0, 1, false), (1, 1, false), (2, 1, false), (3, 1, false), (4, 1, false), (5, 1, false), (6, 1, false), (7, 1, false), (8, 1, false), (9, 1, false), (10, 1, false)]) rfl (by kernel_rfl) (by kernel_rfl), fun _ => bld_of (row := [(0, 1, false), (1, 1, false)]) rfl (by kernel_rfl) (by kernel_rfl), fun _ => bld_of (row := [(0, 1, false), (1, 1, false)]) rfl (by kernel_rfl) (by kernel_rfl), nofun, nofun, trivial⟩
theorem eqOkT : AllT (fun t i => hasK eqT t = true → EqOk Try.prog t i.ty) tyT :=
  ⟨fun h => absurd h (by decide), fun h => absurd h (by decide), fun h => absurd h (by decide), fun h => absurd h (by decide), fun h => absurd h (by decide), fun h => absurd h (by decide), fun h => absurd h (by decide), fun h => absurd h (by decide), fun _ => EqOk.of (n := 8) (by decide) (by kernel_rfl) (by kernel_rfl) (by kernel_rfl) (by kernel_rfl) (by kernel_rfl), fun h => absurd h (by decide), fun h => absurd h (by decide), fun h => absurd h (by decide), trivial⟩
theorem tysOk (tab : Tab) (hint : Nat → Hint) (rm : Rf.Mode) (pins : List (Bool × Nat)) (k : Nat) : TysOk Try.prog (env tab hint rm pins k) :=
  ⟨fun t i h => tyOk.get h, fun s f z h => fldOk.get h, fun t i h => bldOk.get h, fun t i h h2 => eqOkT.get h2 h⟩
theorem envOk {tab : Tab} (h : TabFn Try.prog tab) (hint : Nat → Hint) (rm : Rf.Mode) (pins : List (Bool × Nat)) (k : Nat) : EnvOk Try.prog (env tab hint rm pins k) := EnvOk.of (tysOk tab hint rm pins k) h
def noTab : Tab := fun _ _ => none
def noHint : Nat → Hint := fun _ => ⟨[], []⟩
/-! 19: loop.example/netstack/spec.l20Open -/
abbrev F19_E (k : Nat) : Env := env noTab noHint .own [] k
abbrev F19_a (a0 : List (den (.int .u8))) : List Arg := [.one (.l (.s .ro (.int .u8) a0))]
def F19_r (r : List (den (.int .u8)) × Int) : A × List (List Leaf) := (.one (.ptr (.cell 0) 2 0), [[.s .ro (.int .u8) r.1, .v (.int .i64 r.2)]])
def F19_T {β : Type} (k : Nat) (a0 : List (den (.int .u8))) (RET : (List (den (.int .u8)) × Int) → Option β) : Option β := cond (decide (((a0.length : Nat) : Int) > 2000)) (cond (decide (0 ≤ 2000) && decide (2000 ≤ ((a0.length : Nat) : Int))) (RET (a0.take 2000, 0)) none) (RET (a0, 0))
def F19 (k : Nat) (a0 : List (den (.int .u8))) : Option (List (den (.int .u8)) × Int) := F19_T k a0 some
theorem F19_st {β : Type} (k : Nat) (a0 : List (den (.int .u8))) (K : A × List (List Leaf) → Option β) : evalF (F19_E k) Try.f19 (F19_a a0) K =
    F19_T k a0 (fun r => K (F19_r r)) := by kernel_rfl
theorem F19_ev {β : Type} (k : Nat) (a0 : List (den (.int .u8))) (K : A × List (List Leaf) → Option β) : evalF (F19_E k) Try.f19 (F19_a a0) K = (F19 k a0).bind fun r => K (F19_r r) := by
  rw [F19_st, F19]
  simp only [F19_T, bind_cond, Option.bind_assoc, Option.bind_some, Option.bind_none, Option.bind_fun_some]
theorem F19_con (k : Nat) (a0 : List (den (.int .u8))) : Contract Try.prog 19 (F19_a a0) ⟨F19 k a0, F19_r⟩ := con_of (envOk .none _ _ _ _) mixed Try.func19 rfl rfl (F19_ev k a0 some)
def F19_sh : List AK := [.one (.l (.sl .ro (.int .u8)))]
def F19_p (k : Nat) : List Arg → Option CR := cle F19_sh fun x => ⟨F19 k x.1, F19_r⟩
theorem F19_q (k : Nat) : ∀ xs cr, F19_p k xs = some cr → Contract Try.prog 19 xs cr := cle_ok fun x => F19_con k _
theorem F19_f : FnOk Try.prog 19 := .of (by kernel_rfl)
/-! 20: (*loop.example/netstack/spec.l20Rd).pick -/
abbrev F20_E (k : Nat) : Env := env noTab noHint .own [(false, 0), (false, 1)] k
abbrev F20_a (a0_0 : List (den (.int .u8))) (a0_1 a1 : Int) : List Arg := [.one (.p [.s .ro (.int .u8) a0_0, .v (.int .i64 a0_1)]), .one (.l (.v (.int .i64 a1)))]
def F20_r (r : Int × List (den (.int .u8)) × Int) : A × List (List Leaf) := (.one (.v (.int .i64 r.1)), [[.s .ro (.int .u8) r.2.1, .v (.int .i64 r.2.2)]])
def F20_T {β : Type} (k : Nat) (a0_0 : List (den (.int .u8))) (a0_1 a1 : Int) (RET : (Int × List (den (.int .u8)) × Int) → Option β) : Option β := cond (decide (a1 < 1)) (RET (0, a0_0, IntKind.i64.wrap (a0_1 + 1))) (cond (((a0_0.length : Nat) : Int) == 0) (RET (0, a0_0, IntKind.i64.wrap (a0_1 + 1))) (cond (decide ((IntKind.i64.wrap ((IntKind.i64.wrap (a0_1 + 1)) - 1)) < ((a0_0.length : Nat) : Int))) (cond (decide (0 ≤ (IntKind.i64.wrap ((IntKind.i64.wrap (a0_1 + 1)) - 1)))) (cond (decide ((IntKind.i64.wrap ((IntKind.i64.wrap (a0_1 + 1)) - 1)) < ((a0_0.length : Nat) : Int))) (cond (decide (a1 = 0)) none (RET (((IntKind.i64.wrap (atI a0_0 (IntKind.i64.wrap ((IntKind.i64.wrap (a0_1 + 1)) - 1)))).tmod a1), a0_0, IntKind.i64.wrap (a0_1 + 1)))) none) none) (cond (decide (((a0_0.length : Nat) : Int) = 0)) none (cond (decide (0 ≤ ((IntKind.i64.wrap ((IntKind.i64.wrap (a0_1 + 1)) - 1)).tmod ((a0_0.length : Nat) : Int)))) (cond (decide (((IntKind.i64.wrap ((IntKind.i64.wrap (a0_1 + 1)) - 1)).tmod ((a0_0.length : Nat) : Int)) < ((a0_0.length : Nat) : Int))) (cond (decide (((a0_0.length : Nat) : Int) = 0)) none (cond (decide (0 ≤ ((IntKind.i64.wrap ((IntKind.i64.wrap ((IntKind.i64.wrap ((IntKind.i64.wrap (a0_1 + 1)) - 1)) * 7)) + 3)).tmod ((a0_0.length : Nat) : Int)))) (cond (decide (((IntKind.i64.wrap ((IntKind.i64.wrap ((IntKind.i64.wrap ((IntKind.i64.wrap (a0_1 + 1)) - 1)) * 7)) + 3)).tmod ((a0_0.length : Nat) : Int)) < ((a0_0.length : Nat) : Int))) (cond (decide (((a0_0.length : Nat) : Int) = 0)) none (cond (decide (a1 = 0)) none (RET (((bitsOf .xor .i64 (IntKind.i64.wrap ((IntKind.i64.wrap ((IntKind.i64.wrap ((IntKind.i64.wrap ((IntKind.i64.wrap (atI a0_0 ((IntKind.i64.wrap ((IntKind.i64.wrap (a0_1 + 1)) - 1)).tmod ((a0_0.length : Nat) : Int)))) * 131)) + (IntKind.i64.wrap ((IntKind.i64.wrap (atI a0_0 ((IntKind.i64.wrap ((IntKind.i64.wrap ((IntKind.i64.wrap ((IntKind.i64.wrap (a0_1 + 1)) - 1)) * 7)) + 3)).tmod ((a0_0.length : Nat) : Int)))) * 1117)))) + (IntKind.i64.wrap ((IntKind.i64.wrap ((IntKind.i64.wrap (a0_1 + 1)) - 1)) * 29)))) + (IntKind.i64.wrap ((IntKind.i64.wrap ((IntKind.i64.wrap ((IntKind.i64.wrap (a0_1 + 1)) - 1)).tdiv ((a0_0.length : Nat) : Int))) * 53)))) (IntKind.i64.wrap ((IntKind.i64.wrap ((IntKind.i64.wrap ((IntKind.i64.wrap ((IntKind.i64.wrap ((IntKind.i64.wrap (atI a0_0 ((IntKind.i64.wrap ((IntKind.i64.wrap (a0_1 + 1)) - 1)).tmod ((a0_0.length : Nat) : Int)))) * 131)) + (IntKind.i64.wrap ((IntKind.i64.wrap (atI a0_0 ((IntKind.i64.wrap ((IntKind.i64.wrap ((IntKind.i64.wrap ((IntKind.i64.wrap (a0_1 + 1)) - 1)) * 7)) + 3)).tmod ((a0_0.length : Nat) : Int)))) * 1117)))) + (IntKind.i64.wrap ((IntKind.i64.wrap ((IntKind.i64.wrap (a0_1 + 1)) - 1)) * 29)))) + (IntKind.i64.wrap ((IntKind.i64.wrap ((IntKind.i64.wrap ((IntKind.i64.wrap (a0_1 + 1)) - 1)).tdiv ((a0_0.length : Nat) : Int))) * 53)))).tdiv 64))).tmod a1), a0_0, IntKind.i64.wrap (a0_1 + 1))))) none) none)) none) none))))
def F20 (k : Nat) (a0_0 : List (den (.int .u8))) (a0_1 a1 : Int) : Option (Int × List (den (.int .u8)) × Int) := F20_T k a0_0 a0_1 a1 some
theorem F20_st {β : Type} (k : Nat) (a0_0 : List (den (.int .u8))) (a0_1 a1 : Int) (K : A × List (List Leaf) → Option β) : evalF (F20_E k) Try.f20 (F20_a a0_0 a0_1 a1) K =
    F20_T k a0_0 a0_1 a1 (fun r => K (F20_r r)) := by kernel_rfl
theorem F20_ev {β : Type} (k : Nat) (a0_0 : List (den (.int .u8))) (a0_1 a1 : Int) (K : A × List (List Leaf) → Option β) : evalF (F20_E k) Try.f20 (F20_a a0_0 a0_1 a1) K = (F20 k a0_0 a0_1 a1).bind fun r => K (F20_r r) := by
  rw [F20_st, F20]
  simp only [F20_T, bind_cond, Option.bind_assoc, Option.bind_some, Option.bind_none, Option.bind_fun_some]
theorem F20_con (k : Nat) (a0_0 : List (den (.int .u8))) (a0_1 a1 : Int) : Contract Try.prog 20 (F20_a a0_0 a0_1 a1) ⟨F20 k a0_0 a0_1 a1, F20_r⟩ := con_of (envOk .none _ _ _ _) mixed Try.func20 rfl rfl (F20_ev k a0_0 a0_1 a1 some)
def F20_sh : List AK := [.p [.sl .ro (.int .u8), .int .i64], .one (.l (.int .i64))]
def F20_p (k : Nat) : List Arg → Option CR := cle F20_sh fun x => ⟨F20 k x.1.1 x.1.2.1 x.2.1, F20_r⟩
theorem F20_q (k : Nat) : ∀ xs cr, F20_p k xs = some cr → Contract Try.prog 20 xs cr := cle_ok fun x => F20_con k _ _ _
theorem F20_f : FnOk Try.prog 20 := .of (by kernel_rfl)
/-! 47: (*loop.example/netstack/spec.l20Rd).seq -/
def F47_t (k : Nat) : Tab := entT 20 (F20_p k) <| noTab
abbrev F47_E (k : Nat) : Env := env (F47_t k) noHint .own [(false, 0), (false, 1)] k
abbrev F47_a (a0_0 : List (den (.int .u8))) (a0_1 : Int) : List Arg := [.one (.p [.s .ro (.int .u8) a0_0, .v (.int .i64 a0_1)])]
def F47_r (r : Int × List (den (.int .u8)) × Int) : A × List (List Leaf) := (.one (.v (.int .i64 r.1)), [[.s .ro (.int .u8) r.2.1, .v (.int .i64 r.2.2)]])
def F47_T {β : Type} (k : Nat) (a0_0 : List (den (.int .u8))) (a0_1 : Int) (RET : (Int × List (den (.int .u8)) × Int) → Option β) : Option β := (F20 k a0_0 a0_1 9).bind fun b1 => (F20 k b1.2.1 b1.2.2 9).bind fun b2 => (F20 k b2.2.1 b2.2.2 5).bind fun b3 => (F20 k b3.2.1 b3.2.2 256).bind fun b4 => (F20 k b4.2.1 b4.2.2 256).bind fun b5 => (F20 k b5.2.1 b5.2.2 4).bind fun b6 => cond (decide (0 ≤ b6.1)) (cond (decide (b6.1 < (([b1.1, IntKind.i64.wrap (65535 - b2.1), IntKind.i64.wrap ((IntKind.i64.wrap (32768 + b3.1)) - 2), IntKind.i64.wrap ((IntKind.i64.wrap (b4.1 * 256)) + b5.1)].length : Nat) : Int))) (RET (atI (t := (.int .i64)) [b1.1, IntKind.i64.wrap (65535 - b2.1), IntKind.i64.wrap ((IntKind.i64.wrap (32768 + b3.1)) - 2), IntKind.i64.wrap ((IntKind.i64.wrap (b4.1 * 256)) + b5.1)] b6.1, b6.2.1, b6.2.2)) none) none
def F47 (k : Nat) (a0_0 : List (den (.int .u8))) (a0_1 : Int) : Option (Int × List (den (.int .u8)) × Int) := F47_T k a0_0 a0_1 some
theorem F47_st {β : Type} (k : Nat) (a0_0 : List (den (.int .u8))) (a0_1 : Int) (K : A × List (List Leaf) → Option β) : evalF (F47_E k) Try.f47 (F47_a a0_0 a0_1) K =
    F47_T k a0_0 a0_1 (fun r => K (F47_r r)) := by kernel_rfl
theorem F47_ev {β : Type} (k : Nat) (a0_0 : List (den (.int .u8))) (a0_1 : Int) (K : A × List (List Leaf) → Option β) : evalF (F47_E k) Try.f47 (F47_a a0_0 a0_1) K = (F47 k a0_0 a0_1).bind fun r => K (F47_r r) := by
  rw [F47_st, F47]
  simp only [F47_T, bind_cond, Option.bind_assoc, Option.bind_some, Option.bind_none, Option.bind_fun_some]
theorem F47_tOk (k : Nat) : TabFn Try.prog (F47_t k) := .ent (F20_q k) F20_f (.none)
theorem F47_con (k : Nat) (a0_0 : List (den (.int .u8))) (a0_1 : Int) : Contract Try.prog 47 (F47_a a0_0 a0_1) ⟨F47 k a0_0 a0_1, F47_r⟩ := con_of (envOk (F47_tOk k) _ _ _ _) mixed Try.func47 rfl rfl (F47_ev k a0_0 a0_1 some)
def F47_sh : List AK := [.p [.sl .ro (.int .u8), .int .i64]]
def F47_p (k : Nat) : List Arg → Option CR := cle F47_sh fun x => ⟨F47 k x.1.1 x.1.2.1, F47_r⟩
theorem F47_q (k : Nat) : ∀ xs cr, F47_p k xs = some cr → Contract Try.prog 47 xs cr := cle_ok fun x => F47_con k _ _
theorem F47_f : FnOk Try.prog 47 := .of (by kernel_rfl)
/-! 22: (*loop.example/netstack/spec.l20Rd).bytes -/
def F22_h : Nat → Hint
  | 0 => ⟨[(0, .plain), (1, .plain), (5, .own .own (.int .u8) [])], [(0, .plain), (1, .plain)]⟩
  | _ => ⟨[], []⟩
def F22_t (k : Nat) : Tab := entT 20 (F20_p k) <| noTab
abbrev F22_E (k : Nat) : Env := env (F22_t k) F22_h .own [(false, 0), (false, 1)] k
abbrev F22_a (a0_0 : List (den (.int .u8))) (a0_1 a1 : Int) : List Arg := [.one (.p [.s .ro (.int .u8) a0_0, .v (.int .i64 a0_1)]), .one (.l (.v (.int .i64 a1)))]
def F22_r (r : List (den (.int .u8)) × List (den (.int .u8)) × Int) : A × List (List Leaf) := (.one (.s .own (.int .u8) r.1), [[.s .ro (.int .u8) r.2.1, .v (.int .i64 r.2.2)]])
def F22_s0 (a0_0 : List (den (.int .u8))) (a0_1 a1 : Int) (x1_0 : Int) (m0_0 : List (den (.int .u8))) (m1_0 : Int) (m5900_0 : List (den (.int .u8))) : St := ⟨(.one (.ptr (.cell 0) 2 0)) :: (.one (.v (.int .i64 x1_0))) :: dz 3 ((.one (.a (.cell 5900) 0 0 none)) :: dz 22 []), [(0, ⟨.s .ro (.int .u8) m0_0, 0, 0⟩), (1, ⟨.v (.int .i64 m1_0), 0, 0⟩), (5900, ⟨.s .own (.int .u8) m5900_0, 0, 0⟩)]⟩
def F22_l0_T {β : Type} (k : Nat) (a0_0 : List (den (.int .u8))) (a0_1 a1 : Int) (NX : Int → List (den (.int .u8)) → Int → List (den (.int .u8)) → Option β) (RET : (List (den (.int .u8)) × List (den (.int .u8)) × Int) → Option β) (x1_0 : Int) (m0_0 : List (den (.int .u8))) (m1_0 : Int) (m5900_0 : List (den (.int .u8))) : Option β := cond (decide (x1_0 > 0)) ((F20 k m0_0 m1_0 3).bind fun b1 => cond (b1.1 == 0) ((F20 k b1.2.1 b1.2.2 256).bind fun b2 => cond (decide ((m5900_0.length + [IntKind.u8.wrap (b2.1)].length) * 1 ≤ 140737488355328)) (NX (IntKind.i64.wrap (x1_0 - 1)) b2.2.1 b2.2.2 (m5900_0 ++ [IntKind.u8.wrap (b2.1)])) none) ((F20 k b1.2.1 b1.2.2 3).bind fun b3 => cond (decide ((m5900_0.length + [IntKind.u8.wrap (IntKind.i64.wrap (b3.1 + 97))].length) * 1 ≤ 140737488355328)) (NX (IntKind.i64.wrap (x1_0 - 1)) b3.2.1 b3.2.2 (m5900_0 ++ [IntKind.u8.wrap (IntKind.i64.wrap (b3.1 + 97))])) none)) (RET (m5900_0, m0_0, m1_0))
def F22_l0 (k : Nat) (a0_0 : List (den (.int .u8))) (a0_1 a1 : Int) : Nat → Int → List (den (.int .u8)) → Int → List (den (.int .u8)) → Option (List (den (.int .u8)) × List (den (.int .u8)) × Int)
  | 0, _, _, _, _ => none
  | n + 1, x1_0, m0_0, m1_0, m5900_0 => F22_l0_T k a0_0 a0_1 a1 (fun x1_0 m0_0 m1_0 m5900_0 => F22_l0 k a0_0 a0_1 a1 n x1_0 m0_0 m1_0 m5900_0) some x1_0 m0_0 m1_0 m5900_0
theorem F22_l0_rd {β : Type} (k n : Nat) (a0_0 : List (den (.int .u8))) (a0_1 a1 : Int) (x1_0 : Int) (m0_0 : List (den (.int .u8))) (m1_0 : Int) (m5900_0 : List (den (.int .u8))) (K : A × List (List Leaf) → Option β) :
    loopG (F22_E k) Try.f22 [1, 1, 0, 0] 0 (kontAt (F22_E k) [1, 1, 0, 0] (bodyOf Try.f22) 0 (endC (F22_E k) Try.f22 (F22_a a0_0 a0_1 a1) K)) (n + 1) (F22_s0 a0_0 a0_1 a1 x1_0 m0_0 m1_0 m5900_0) =
    F22_l0_T k a0_0 a0_1 a1 (fun x1_0 m0_0 m1_0 m5900_0 => loopG (F22_E k) Try.f22 [1, 1, 0, 0] 0 (kontAt (F22_E k) [1, 1, 0, 0] (bodyOf Try.f22) 0 (endC (F22_E k) Try.f22 (F22_a a0_0 a0_1 a1) K)) n (F22_s0 a0_0 a0_1 a1 x1_0 m0_0 m1_0 m5900_0)) (fun r => K (F22_r r)) x1_0 m0_0 m1_0 m5900_0 := by kernel_rfl
theorem F22_l0_lp {β : Type} (k : Nat) (a0_0 : List (den (.int .u8))) (a0_1 a1 : Int) (K : A × List (List Leaf) → Option β) (n : Nat) : ∀ (x1_0 : Int) (m0_0 : List (den (.int .u8))) (m1_0 : Int) (m5900_0 : List (den (.int .u8))), loopG (F22_E k) Try.f22 [1, 1, 0, 0] 0 (kontAt (F22_E k) [1, 1, 0, 0] (bodyOf Try.f22) 0 (endC (F22_E k) Try.f22 (F22_a a0_0 a0_1 a1) K)) n (F22_s0 a0_0 a0_1 a1 x1_0 m0_0 m1_0 m5900_0) =
    (F22_l0 k a0_0 a0_1 a1 n x1_0 m0_0 m1_0 m5900_0).bind fun r => K (F22_r r) := by
  induction n with
  | zero => intros; rfl
  | succ n ih =>
    intros
    rw [F22_l0_rd, F22_l0]
    simp only [F22_l0_T, bind_cond, Option.bind_assoc, Option.bind_some, Option.bind_none, Option.bind_fun_some, ih]
def F22_T {β : Type} (k : Nat) (a0_0 : List (den (.int .u8))) (a0_1 a1 : Int) (LP0 : Int → List (den (.int .u8)) → Int → List (den (.int .u8)) → Option β) : Option β := LP0 a1 a0_0 a0_1 []
def F22 (k : Nat) (a0_0 : List (den (.int .u8))) (a0_1 a1 : Int) : Option (List (den (.int .u8)) × List (den (.int .u8)) × Int) := F22_T k a0_0 a0_1 a1 (fun x1_0 m0_0 m1_0 m5900_0 => F22_l0 k a0_0 a0_1 a1 k x1_0 m0_0 m1_0 m5900_0)
theorem F22_st {β : Type} (k : Nat) (a0_0 : List (den (.int .u8))) (a0_1 a1 : Int) (K : A × List (List Leaf) → Option β) : evalF (F22_E k) Try.f22 (F22_a a0_0 a0_1 a1) K =
    F22_T k a0_0 a0_1 a1 (fun x1_0 m0_0 m1_0 m5900_0 => loopG (F22_E k) Try.f22 [1, 1, 0, 0] 0 (kontAt (F22_E k) [1, 1, 0, 0] (bodyOf Try.f22) 0 (endC (F22_E k) Try.f22 (F22_a a0_0 a0_1 a1) K)) k (F22_s0 a0_0 a0_1 a1 x1_0 m0_0 m1_0 m5900_0)) := by kernel_rfl
theorem F22_ev {β : Type} (k : Nat) (a0_0 : List (den (.int .u8))) (a0_1 a1 : Int) (K : A × List (List Leaf) → Option β) : evalF (F22_E k) Try.f22 (F22_a a0_0 a0_1 a1) K = (F22 k a0_0 a0_1 a1).bind fun r => K (F22_r r) := by
  rw [F22_st, F22]
  simp only [F22_T, bind_cond, Option.bind_assoc, Option.bind_some, Option.bind_none, Option.bind_fun_some, F22_l0_lp]
theorem F22_tOk (k : Nat) : TabFn Try.prog (F22_t k) := .ent (F20_q k) F20_f (.none)
theorem F22_con (k : Nat) (a0_0 : List (den (.int .u8))) (a0_1 a1 : Int) : Contract Try.prog 22 (F22_a a0_0 a0_1 a1) ⟨F22 k a0_0 a0_1 a1, F22_r⟩ := con_of (envOk (F22_tOk k) _ _ _ _) mixed Try.func22 rfl rfl (F22_ev k a0_0 a0_1 a1 some)
def F22_sh : List AK := [.p [.sl .ro (.int .u8), .int .i64], .one (.l (.int .i64))]
def F22_p (k : Nat) : List Arg → Option CR := cle F22_sh fun x => ⟨F22 k x.1.1 x.1.2.1 x.2.1, F22_r⟩
theorem F22_q (k : Nat) : ∀ xs cr, F22_p k xs = some cr → Contract Try.prog 22 xs cr := cle_ok fun x => F22_con k _ _ _
theorem F22_f : FnOk Try.prog 22 := .of (by kernel_rfl)
/-! 48: (*loop.example/netstack/spec.l20Rd).odd -/
def F48_t (k : Nat) : Tab := entT 20 (F20_p k) <| noTab
abbrev F48_E (k : Nat) : Env := env (F48_t k) noHint .own [(false, 0), (false, 1)] k
abbrev F48_a (a0_0 : List (den (.int .u8))) (a0_1 a1 : Int) : List Arg := [.one (.p [.s .ro (.int .u8) a0_0, .v (.int .i64 a0_1)]), .one (.l (.v (.int .i64 a1)))]
def F48_r (r : Bool × List (den (.int .u8)) × Int) : A × List (List Leaf) := (.one (.v (.bool r.1)), [[.s .ro (.int .u8) r.2.1, .v (.int .i64 r.2.2)]])
def F48_T {β : Type} (k : Nat) (a0_0 : List (den (.int .u8))) (a0_1 a1 : Int) (RET : (Bool × List (den (.int .u8)) × Int) → Option β) : Option β := cond (decide (a1 > 0)) ((F20 k a0_0 a0_1 a1).bind fun b1 => RET ((b1.1 == (IntKind.i64.wrap (a1 - 1))), b1.2.1, b1.2.2)) (RET (false, a0_0, a0_1))
def F48 (k : Nat) (a0_0 : List (den (.int .u8))) (a0_1 a1 : Int) : Option (Bool × List (den (.int .u8)) × Int) := F48_T k a0_0 a0_1 a1 some
theorem F48_st {β : Type} (k : Nat) (a0_0 : List (den (.int .u8))) (a0_1 a1 : Int) (K : A × List (List Leaf) → Option β) : evalF (F48_E k) Try.f48 (F48_a a0_0 a0_1 a1) K =
    F48_T k a0_0 a0_1 a1 (fun r => K (F48_r r)) := by kernel_rfl
theorem F48_ev {β : Type} (k : Nat) (a0_0 : List (den (.int .u8))) (a0_1 a1 : Int) (K : A × List (List Leaf) → Option β) : evalF (F48_E k) Try.f48 (F48_a a0_0 a0_1 a1) K = (F48 k a0_0 a0_1 a1).bind fun r => K (F48_r r) := by
  rw [F48_st, F48]
  simp only [F48_T, bind_cond, Option.bind_assoc, Option.bind_some, Option.bind_none, Option.bind_fun_some]
theorem F48_tOk (k : Nat) : TabFn Try.prog (F48_t k) := .ent (F20_q k) F20_f (.none)
theorem F48_con (k : Nat) (a0_0 : List (den (.int .u8))) (a0_1 a1 : Int) : Contract Try.prog 48 (F48_a a0_0 a0_1 a1) ⟨F48 k a0_0 a0_1 a1, F48_r⟩ := con_of (envOk (F48_tOk k) _ _ _ _) mixed Try.func48 rfl rfl (F48_ev k a0_0 a0_1 a1 some)
def F48_sh : List AK := [.p [.sl .ro (.int .u8), .int .i64], .one (.l (.int .i64))]
def F48_p (k : Nat) : List Arg → Option CR := cle F48_sh fun x => ⟨F48 k x.1.1 x.1.2.1 x.2.1, F48_r⟩
theorem F48_q (k : Nat) : ∀ xs cr, F48_p k xs = some cr → Contract Try.prog 48 xs cr := cle_ok fun x => F48_con k _ _ _
theorem F48_f : FnOk Try.prog 48 := .of (by kernel_rfl)
/-! 21: loop.example/netstack/spec.l20Segment -/
def F21_h : Nat → Hint
  | 0 => ⟨[(0, .plain), (1, .plain), (4, .plain), (5, .plain), (6, .plain)], [(0, .plain), (1, .plain), (4000, .plain), (4001, .plain), (4002, .plain), (4003, .plain), (4004, .plain), (4005, .plain), (4006, .plain), (4007, .plain), (4008, .plain), (4009, .plain), (4010, .plain), (5000, .plain), (5001, .plain), (5002, .plain), (5003, .plain), (5004, .plain), (5005, .plain), (5006, .plain), (5007, .plain), (5008, .plain), (5009, .own .own rng []), (5010, .own .own (.int .u8) []), (18000, .plain)]⟩
  | _ => ⟨[], []⟩
def F21_t (k : Nat) : Tab := entT 20 (F20_p k) <| entT 47 (F47_p k) <| entT 22 (F22_p k) <| entT 48 (F48_p k) <| noTab
abbrev F21_E (k : Nat) : Env := env (F21_t k) F21_h .own [(false, 0), (false, 1)] k
abbrev F21_a (a0_0 : List (den (.int .u8))) (a0_1 a1 : Int) : List Arg := [.one (.p [.s .ro (.int .u8) a0_0, .v (.int .i64 a0_1)]), .one (.l (.v (.int .i64 a1)))]
def F21_r (r : Int × Int × Int × Int × Int × Bool × Bool × Bool × Bool × List (den rng) × List (den (.int .u8)) × List (den (.int .u8)) × Int) : A × List (List Leaf) := (.agg [.v (.int .i64 r.1), .v (.int .i64 r.2.1), .v (.int .i64 r.2.2.1), .v (.int .i64 r.2.2.2.1), .v (.int .i64 r.2.2.2.2.1), .v (.bool r.2.2.2.2.2.1), .v (.bool r.2.2.2.2.2.2.1), .v (.bool r.2.2.2.2.2.2.2.1), .v (.bool r.2.2.2.2.2.2.2.2.1), .s .own rng r.2.2.2.2.2.2.2.2.2.1, .s .own (.int .u8) r.2.2.2.2.2.2.2.2.2.2.1], [[.s .ro (.int .u8) r.2.2.2.2.2.2.2.2.2.2.2.1, .v (.int .i64 r.2.2.2.2.2.2.2.2.2.2.2.2)]])
def F21_s0 (a0_0 : List (den (.int .u8))) (a0_1 a1 : Int) (x6_0 : Int) (m0_0 : List (den (.int .u8))) (m1_0 m5000_0 m5001_0 m5002_0 m5003_0 m5004_0 : Int) (m5005_0 m5007_0 : Bool) (m5009_0 : List (den rng)) (m5010_0 : List (den (.int .u8))) : St := ⟨(.one (.ptr (.cell 0) 2 0)) :: (.one (.v (.int .i64 a1))) :: (.one .d) :: (.one .d) :: (.one (.ptr (.cell 4000) 11 0)) :: (.one (.ptr (.cell 5000) 11 0)) :: (.one (.v (.int .i64 x6_0))) :: dz 83 [], [(0, ⟨.s .ro (.int .u8) m0_0, 0, 0⟩), (1, ⟨.v (.int .i64 m1_0), 0, 0⟩), (4000, ⟨.v (.int .i64 0), 0, 0⟩), (4001, ⟨.v (.int .i64 0), 0, 0⟩), (4002, ⟨.v (.int .i64 0), 0, 0⟩), (4003, ⟨.v (.int .i64 0), 0, 0⟩), (4004, ⟨.v (.int .i64 0), 0, 0⟩), (4005, ⟨.v (.bool false), 0, 0⟩), (4006, ⟨.v (.bool false), 0, 0⟩), (4007, ⟨.v (.bool false), 0, 0⟩), (4008, ⟨.v (.bool false), 0, 0⟩), (4009, ⟨.s .own rng [], 0, 0⟩), (4010, ⟨.s .own (.int .u8) [], 0, 0⟩), (5000, ⟨.v (.int .i64 m5000_0), 0, 0⟩), (5001, ⟨.v (.int .i64 m5001_0), 0, 0⟩), (5002, ⟨.v (.int .i64 m5002_0), 0, 0⟩), (5003, ⟨.v (.int .i64 m5003_0), 0, 0⟩), (5004, ⟨.v (.int .i64 m5004_0), 0, 0⟩), (5005, ⟨.v (.bool m5005_0), 0, 0⟩), (5006, ⟨.v (.bool true), 0, 0⟩), (5007, ⟨.v (.bool m5007_0), 0, 0⟩), (5008, ⟨.v (.bool false), 0, 0⟩), (5009, ⟨.s .own rng m5009_0, 0, 0⟩), (5010, ⟨.s .own (.int .u8) m5010_0, 0, 0⟩), (18000, ⟨.d, 0, 0⟩)]⟩
def F21_l0_T {β : Type} (k : Nat) (a0_0 : List (den (.int .u8))) (a0_1 a1 : Int) (NX : Int → List (den (.int .u8)) → Int → Int → Int → Int → Int → Int → Bool → Bool → List (den rng) → List (den (.int .u8)) → Option β) (RET : (Int × Int × Int × Int × Int × Bool × Bool × Bool × Bool × List (den rng) × List (den (.int .u8)) × List (den (.int .u8)) × Int) → Option β) (x6_0 : Int) (m0_0 : List (den (.int .u8))) (m1_0 m5000_0 m5001_0 m5002_0 m5003_0 m5004_0 : Int) (m5005_0 m5007_0 : Bool) (m5009_0 : List (den rng)) (m5010_0 : List (den (.int .u8))) : Option β := cond (decide (x6_0 > 0)) ((F47 k m0_0 m1_0).bind fun b12 => (F47 k b12.2.1 b12.2.2).bind fun b13 => cond (decide ((m5009_0.length + [(b12.1, b13.1)].length) * 16 ≤ 140737488355328)) (NX (IntKind.i64.wrap (x6_0 - 1)) b13.2.1 b13.2.2 m5000_0 m5001_0 m5002_0 m5003_0 m5004_0 m5005_0 m5007_0 (m5009_0 ++ [(b12.1, b13.1)]) m5010_0) none) ((F20 k m0_0 m1_0 8).bind fun b14 => cond (b14.1 == 0) ((F48 k b14.2.1 b14.2.2 a1).bind fun b15 => cond b15.1 ((F20 k b15.2.1 b15.2.2 4).bind fun b16 => cond (b16.1 == 0) ((F20 k b16.2.1 b16.2.2 2).bind fun b17 => RET (IntKind.i64.wrap (b17.1 * 256), m5001_0, m5002_0, m5003_0, m5004_0, false, true, false, true, m5009_0, [], b17.2.1, b17.2.2)) (cond (b16.1 == 1) ((F20 k b16.2.1 b16.2.2 2).bind fun b18 => RET (m5000_0, m5001_0, IntKind.i64.wrap (65536 - (IntKind.i64.wrap (b18.1 * 65540))), m5003_0, m5004_0, false, true, false, true, m5009_0, [], b18.2.1, b18.2.2)) (cond (b16.1 == 2) (RET (m5000_0, m5001_0, m5002_0, 4, m5004_0, false, false, false, true, m5009_0, [], b16.2.1, b16.2.2)) ((F20 k b16.2.1 b16.2.2 14).bind fun b19 => cond (decide (0 ≤ b19.1) && decide (b19.1 = b19.1) && decide (b19.1 * (1 : Nat) ≤ 140737488355328)) (RET (m5000_0, m5001_0, m5002_0, m5003_0, m5004_0, false, true, false, true, m5009_0, List.replicate b19.1.toNat (dflt (.int .u8)), b19.2.1, b19.2.2)) none)))) (RET (m5000_0, m5001_0, m5002_0, m5003_0, m5004_0, false, true, false, true, m5009_0, [], b15.2.1, b15.2.2))) ((F48 k b14.2.1 b14.2.2 a1).bind fun b20 => cond b20.1 ((F20 k b20.2.1 b20.2.2 4).bind fun b21 => cond (b21.1 == 0) ((F20 k b21.2.1 b21.2.2 2).bind fun b22 => RET (IntKind.i64.wrap (b22.1 * 256), m5001_0, m5002_0, m5003_0, m5004_0, m5005_0, true, m5007_0, false, m5009_0, m5010_0, b22.2.1, b22.2.2)) (cond (b21.1 == 1) ((F20 k b21.2.1 b21.2.2 2).bind fun b23 => RET (m5000_0, m5001_0, IntKind.i64.wrap (65536 - (IntKind.i64.wrap (b23.1 * 65540))), m5003_0, m5004_0, m5005_0, true, m5007_0, false, m5009_0, m5010_0, b23.2.1, b23.2.2)) (cond (b21.1 == 2) (RET (m5000_0, m5001_0, m5002_0, 4, m5004_0, m5005_0, false, m5007_0, false, m5009_0, m5010_0, b21.2.1, b21.2.2)) ((F20 k b21.2.1 b21.2.2 14).bind fun b24 => cond (decide (0 ≤ b24.1) && decide (b24.1 = b24.1) && decide (b24.1 * (1 : Nat) ≤ 140737488355328)) (RET (m5000_0, m5001_0, m5002_0, m5003_0, m5004_0, m5005_0, true, m5007_0, true, m5009_0, List.replicate b24.1.toNat (dflt (.int .u8)), b24.2.1, b24.2.2)) none)))) (RET (m5000_0, m5001_0, m5002_0, m5003_0, m5004_0, m5005_0, true, m5007_0, false, m5009_0, m5010_0, b20.2.1, b20.2.2))))
def F21_l0 (k : Nat) (a0_0 : List (den (.int .u8))) (a0_1 a1 : Int) : Nat → Int → List (den (.int .u8)) → Int → Int → Int → Int → Int → Int → Bool → Bool → List (den rng) → List (den (.int .u8)) → Option (Int × Int × Int × Int × Int × Bool × Bool × Bool × Bool × List (den rng) × List (den (.int .u8)) × List (den (.int .u8)) × Int)
  | 0, _, _, _, _, _, _, _, _, _, _, _, _ => none
  | n + 1, x6_0, m0_0, m1_0, m5000_0, m5001_0, m5002_0, m5003_0, m5004_0, m5005_0, m5007_0, m5009_0, m5010_0 => F21_l0_T k a0_0 a0_1 a1 (fun x6_0 m0_0 m1_0 m5000_0 m5001_0 m5002_0 m5003_0 m5004_0 m5005_0 m5007_0 m5009_0 m5010_0 => F21_l0 k a0_0 a0_1 a1 n x6_0 m0_0 m1_0 m5000_0 m5001_0 m5002_0 m5003_0 m5004_0 m5005_0 m5007_0 m5009_0 m5010_0) some x6_0 m0_0 m1_0 m5000_0 m5001_0 m5002_0 m5003_0 m5004_0 m5005_0 m5007_0 m5009_0 m5010_0
theorem F21_l0_rd {β : Type} (k n : Nat) (a0_0 : List (den (.int .u8))) (a0_1 a1 : Int) (x6_0 : Int) (m0_0 : List (den (.int .u8))) (m1_0 m5000_0 m5001_0 m5002_0 m5003_0 m5004_0 : Int) (m5005_0 m5007_0 : Bool) (m5009_0 : List (den rng)) (m5010_0 : List (den (.int .u8))) (K : A × List (List Leaf) → Option β) :
    loopG (F21_E k) Try.f21 [1, 1, 0, 1, 0, 1, 1, 1, 1, 0] 0 (kontAt (F21_E k) [1, 1, 0, 1, 0, 1, 1, 1, 1, 0] (bodyOf Try.f21) 0 (endC (F21_E k) Try.f21 (F21_a a0_0 a0_1 a1) K)) (n + 1) (F21_s0 a0_0 a0_1 a1 x6_0 m0_0 m1_0 m5000_0 m5001_0 m5002_0 m5003_0 m5004_0 m5005_0 m5007_0 m5009_0 m5010_0) =
    F21_l0_T k a0_0 a0_1 a1 (fun x6_0 m0_0 m1_0 m5000_0 m5001_0 m5002_0 m5003_0 m5004_0 m5005_0 m5007_0 m5009_0 m5010_0 => loopG (F21_E k) Try.f21 [1, 1, 0, 1, 0, 1, 1, 1, 1, 0] 0 (kontAt (F21_E k) [1, 1, 0, 1, 0, 1, 1, 1, 1, 0] (bodyOf Try.f21) 0 (endC (F21_E k) Try.f21 (F21_a a0_0 a0_1 a1) K)) n (F21_s0 a0_0 a0_1 a1 x6_0 m0_0 m1_0 m5000_0 m5001_0 m5002_0 m5003_0 m5004_0 m5005_0 m5007_0 m5009_0 m5010_0)) (fun r => K (F21_r r)) x6_0 m0_0 m1_0 m5000_0 m5001_0 m5002_0 m5003_0 m5004_0 m5005_0 m5007_0 m5009_0 m5010_0 := by kernel_rfl
theorem F21_l0_lp {β : Type} (k : Nat) (a0_0 : List (den (.int .u8))) (a0_1 a1 : Int) (K : A × List (List Leaf) → Option β) (n : Nat) : ∀ (x6_0 : Int) (m0_0 : List (den (.int .u8))) (m1_0 m5000_0 m5001_0 m5002_0 m5003_0 m5004_0 : Int) (m5005_0 m5007_0 : Bool) (m5009_0 : List (den rng)) (m5010_0 : List (den (.int .u8))), loopG (F21_E k) Try.f21 [1, 1, 0, 1, 0, 1, 1, 1, 1, 0] 0 (kontAt (F21_E k) [1, 1, 0, 1, 0, 1, 1, 1, 1, 0] (bodyOf Try.f21) 0 (endC (F21_E k) Try.f21 (F21_a a0_0 a0_1 a1) K)) n (F21_s0 a0_0 a0_1 a1 x6_0 m0_0 m1_0 m5000_0 m5001_0 m5002_0 m5003_0 m5004_0 m5005_0 m5007_0 m5009_0 m5010_0) =
    (F21_l0 k a0_0 a0_1 a1 n x6_0 m0_0 m1_0 m5000_0 m5001_0 m5002_0 m5003_0 m5004_0 m5005_0 m5007_0 m5009_0 m5010_0).bind fun r => K (F21_r r) := by
  induction n with
  | zero => intros; rfl
  | succ n ih =>
    intros
    rw [F21_l0_rd, F21_l0]
    simp only [F21_l0_T, bind_cond, Option.bind_assoc, Option.bind_some, Option.bind_none, Option.bind_fun_some, ih]
def F21_T {β : Type} (k : Nat) (a0_0 : List (den (.int .u8))) (a0_1 a1 : Int) (LP0 : Int → List (den (.int .u8)) → Int → Int → Int → Int → Int → Int → Bool → Bool → List (den rng) → List (den (.int .u8)) → Option β) (RET : (Int × Int × Int × Int × Int × Bool × Bool × Bool × Bool × List (den rng) × List (den (.int .u8)) × List (den (.int .u8)) × Int) → Option β) : Option β := (F20 k a0_0 a0_1 3).bind fun b1 => (F20 k b1.2.1 b1.2.2 3).bind fun b2 => (F47 k b2.2.1 b2.2.2).bind fun b3 => (F20 k b3.2.1 b3.2.2 5).bind fun b4 => (F22 k b4.2.1 b4.2.2 b4.1).bind fun b5 => (F20 k b5.2.1 b5.2.2 4).bind fun b6 => (F20 k b6.2.1 b6.2.2 4).bind fun b7 => (F20 k b7.2.1 b7.2.2 4).bind fun b8 => cond (decide (b8.1 > 0)) ((F47 k b8.2.1 b8.2.2).bind fun b9 => (F20 k b9.2.1 b9.2.2 40).bind fun b10 => (F20 k b10.2.1 b10.2.2 3).bind fun b11 => LP0 b11.1 b11.2.1 b11.2.2 (IntKind.i64.wrap (1 + b1.1)) (IntKind.i64.wrap (1 + b2.1)) b3.1 b9.1 b10.1 (b6.1 == 0) (b7.1 == 0) [] b5.1) ((F20 k b8.2.1 b8.2.2 8).bind fun b25 => cond (b25.1 == 0) ((F48 k b25.2.1 b25.2.2 a1).bind fun b26 => cond b26.1 ((F20 k b26.2.1 b26.2.2 4).bind fun b27 => cond (b27.1 == 0) ((F20 k b27.2.1 b27.2.2 2).bind fun b28 => RET (IntKind.i64.wrap (b28.1 * 256), IntKind.i64.wrap (1 + b2.1), b3.1, 0, 0, false, false, false, true, [], [], b28.2.1, b28.2.2)) (cond (b27.1 == 1) ((F20 k b27.2.1 b27.2.2 2).bind fun b29 => RET (IntKind.i64.wrap (1 + b1.1), IntKind.i64.wrap (1 + b2.1), IntKind.i64.wrap (65536 - (IntKind.i64.wrap (b29.1 * 65540))), 0, 0, false, false, false, true, [], [], b29.2.1, b29.2.2)) (cond (b27.1 == 2) (RET (IntKind.i64.wrap (1 + b1.1), IntKind.i64.wrap (1 + b2.1), b3.1, 4, 0, false, true, false, true, [], [], b27.2.1, b27.2.2)) ((F20 k b27.2.1 b27.2.2 14).bind fun b30 => cond (decide (0 ≤ b30.1) && decide (b30.1 = b30.1) && decide (b30.1 * (1 : Nat) ≤ 140737488355328)) (RET (IntKind.i64.wrap (1 + b1.1), IntKind.i64.wrap (1 + b2.1), b3.1, 0, 0, false, false, false, true, [], List.replicate b30.1.toNat (dflt (.int .u8)), b30.2.1, b30.2.2)) none)))) (RET (IntKind.i64.wrap (1 + b1.1), IntKind.i64.wrap (1 + b2.1), b3.1, 0, 0, false, false, false, true, [], [], b26.2.1, b26.2.2))) ((F48 k b25.2.1 b25.2.2 a1).bind fun b31 => cond b31.1 ((F20 k b31.2.1 b31.2.2 4).bind fun b32 => cond (b32.1 == 0) ((F20 k b32.2.1 b32.2.2 2).bind fun b33 => RET (IntKind.i64.wrap (b33.1 * 256), IntKind.i64.wrap (1 + b2.1), b3.1, 0, 0, (b6.1 == 0), false, (b7.1 == 0), false, [], b5.1, b33.2.1, b33.2.2)) (cond (b32.1 == 1) ((F20 k b32.2.1 b32.2.2 2).bind fun b34 => RET (IntKind.i64.wrap (1 + b1.1), IntKind.i64.wrap (1 + b2.1), IntKind.i64.wrap (65536 - (IntKind.i64.wrap (b34.1 * 65540))), 0, 0, (b6.1 == 0), false, (b7.1 == 0), false, [], b5.1, b34.2.1, b34.2.2)) (cond (b32.1 == 2) (RET (IntKind.i64.wrap (1 + b1.1), IntKind.i64.wrap (1 + b2.1), b3.1, 4, 0, (b6.1 == 0), true, (b7.1 == 0), false, [], b5.1, b32.2.1, b32.2.2)) ((F20 k b32.2.1 b32.2.2 14).bind fun b35 => cond (decide (0 ≤ b35.1) && decide (b35.1 = b35.1) && decide (b35.1 * (1 : Nat) ≤ 140737488355328)) (RET (IntKind.i64.wrap (1 + b1.1), IntKind.i64.wrap (1 + b2.1), b3.1, 0, 0, (b6.1 == 0), false, (b7.1 == 0), true, [], List.replicate b35.1.toNat (dflt (.int .u8)), b35.2.1, b35.2.2)) none)))) (RET (IntKind.i64.wrap (1 + b1.1), IntKind.i64.wrap (1 + b2.1), b3.1, 0, 0, (b6.1 == 0), false, (b7.1 == 0), false, [], b5.1, b31.2.1, b31.2.2))))
def F21 (k : Nat) (a0_0 : List (den (.int .u8))) (a0_1 a1 : Int) : Option (Int × Int × Int × Int × Int × Bool × Bool × Bool × Bool × List (den rng) × List (den (.int .u8)) × List (den (.int .u8)) × Int) := F21_T k a0_0 a0_1 a1 (fun x6_0 m0_0 m1_0 m5000_0 m5001_0 m5002_0 m5003_0 m5004_0 m5005_0 m5007_0 m5009_0 m5010_0 => F21_l0 k a0_0 a0_1 a1 k x6_0 m0_0 m1_0 m5000_0 m5001_0 m5002_0 m5003_0 m5004_0 m5005_0 m5007_0 m5009_0 m5010_0) some
theorem F21_st {β : Type} (k : Nat) (a0_0 : List (den (.int .u8))) (a0_1 a1 : Int) (K : A × List (List Leaf) → Option β) : evalF (F21_E k) Try.f21 (F21_a a0_0 a0_1 a1) K =
    F21_T k a0_0 a0_1 a1 (fun x6_0 m0_0 m1_0 m5000_0 m5001_0 m5002_0 m5003_0 m5004_0 m5005_0 m5007_0 m5009_0 m5010_0 => loopG (F21_E k) Try.f21 [1, 1, 0, 1, 0, 1, 1, 1, 1, 0] 0 (kontAt (F21_E k) [1, 1, 0, 1, 0, 1, 1, 1, 1, 0] (bodyOf Try.f21) 0 (endC (F21_E k) Try.f21 (F21_a a0_0 a0_1 a1) K)) k (F21_s0 a0_0 a0_1 a1 x6_0 m0_0 m1_0 m5000_0 m5001_0 m5002_0 m5003_0 m5004_0 m5005_0 m5007_0 m5009_0 m5010_0)) (fun r => K (F21_r r)) := by kernel_rfl
theorem F21_ev {β : Type} (k : Nat) (a0_0 : List (den (.int .u8))) (a0_1 a1 : Int) (K : A × List (List Leaf) → Option β) : evalF (F21_E k) Try.f21 (F21_a a0_0 a0_1 a1) K = (F21 k a0_0 a0_1 a1).bind fun r => K (F21_r r) := by
  rw [F21_st, F21]
  simp only [F21_T, bind_cond, Option.bind_assoc, Option.bind_some, Option.bind_none, Option.bind_fun_some, F21_l0_lp]
theorem F21_tOk (k : Nat) : TabFn Try.prog (F21_t k) := .ent (F20_q k) F20_f (.ent (F47_q k) F47_f (.ent (F22_q k) F22_f (.ent (F48_q k) F48_f (.none))))
theorem F21_con (k : Nat) (a0_0 : List (den (.int .u8))) (a0_1 a1 : Int) : Contract Try.prog 21 (F21_a a0_0 a0_1 a1) ⟨F21 k a0_0 a0_1 a1, F21_r⟩ := con_of (envOk (F21_tOk k) _ _ _ _) mixed Try.func21 rfl rfl (F21_ev k a0_0 a0_1 a1 some)
def F21_sh : List AK := [.p [.sl .ro (.int .u8), .int .i64], .one (.l (.int .i64))]
def F21_p (k : Nat) : List Arg → Option CR := cle F21_sh fun x => ⟨F21 k x.1.1 x.1.2.1 x.2.1, F21_r⟩
theorem F21_q (k : Nat) : ∀ xs cr, F21_p k xs = some cr → Contract Try.prog 21 xs cr := cle_ok fun x => F21_con k _ _ _
theorem F21_f : FnOk Try.prog 21 := .of (by kernel_rfl)
/-! 49: loop.example/netstack/spec.l1In -/
abbrev F49_E (k : Nat) : Env := env noTab noHint .own [] k
abbrev F49_a (a0 a1 a2 : Int) : List Arg := [.one (.l (.v (.int .i64 a0))), .one (.l (.v (.int .i64 a1))), .one (.l (.v (.int .i64 a2)))]
def F49_r (r : Bool) : A × List (List Leaf) := (.one (.v (.bool r)), [])
def F49 (k : Nat) (a0 a1 a2 : Int) : Option (Bool) := cond (decide (a0 ≥ a1)) (some (decide (a0 ≤ a2))) (some false)
theorem F49_st {β : Type} (k : Nat) (a0 a1 a2 : Int) (K : A × List (List Leaf) → Option β) : evalF (F49_E k) Try.f49 (F49_a a0 a1 a2) K =
    cond (decide (a0 ≥ a1)) (K (.one (.v (.bool (decide (a0 ≤ a2)))), [])) (K (.one (.v (.bool false)), [])) := by kernel_rfl
theorem F49_ev {β : Type} (k : Nat) (a0 a1 a2 : Int) (K : A × List (List Leaf) → Option β) : evalF (F49_E k) Try.f49 (F49_a a0 a1 a2) K = (F49 k a0 a1 a2).bind fun r => K (F49_r r) := by
  rw [F49_st, F49]
  simp only [F49_r, bind_cond, Option.bind_assoc, Option.bind_some, Option.bind_none, Option.bind_fun_some]
theorem F49_con (k : Nat) (a0 a1 a2 : Int) : Contract Try.prog 49 (F49_a a0 a1 a2) ⟨F49 k a0 a1 a2, F49_r⟩ := con_of (envOk .none _ _ _ _) mixed Try.func49 rfl rfl (F49_ev k a0 a1 a2 some)
def F49_sh : List AK := [.one (.l (.int .i64)), .one (.l (.int .i64)), .one (.l (.int .i64))]
def F49_p (k : Nat) : List Arg → Option CR := cle F49_sh fun x => ⟨F49 k x.1 x.2.1 x.2.2.1, F49_r⟩
theorem F49_q (k : Nat) : ∀ xs cr, F49_p k xs = some cr → Contract Try.prog 49 xs cr := cle_ok fun x => F49_con k _ _ _
theorem F49_f : FnOk Try.prog 49 := .of (by kernel_rfl)
/-! 27: loop.example/netstack/spec.SegmentOk -/
def F27_h : Nat → Hint
  | 0 => ⟨[(1, .plain), (3, .plain)], [(1000, .plain), (1001, .plain), (1002, .plain), (1003, .plain), (1004, .plain), (1005, .plain), (1006, .plain), (1007, .plain), (1008, .plain), (1009, .plain), (1010, .plain)]⟩
  | _ => ⟨[], []⟩
def F27_t (k : Nat) : Tab := entT 49 (F49_p k) <| noTab
abbrev F27_E (k : Nat) : Env := env (F27_t k) F27_h .own [] k
abbrev F27_a (a0_0 a0_1 a0_2 a0_3 a0_4 : Int) (a0_5 a0_6 a0_7 a0_8 : Bool) (a0_9 : List (den rng)) (a0_10 : List (den (.int .u8))) : List Arg := [.agg [.l (.v (.int .i64 a0_0)), .l (.v (.int .i64 a0_1)), .l (.v (.int .i64 a0_2)), .l (.v (.int .i64 a0_3)), .l (.v (.int .i64 a0_4)), .l (.v (.bool a0_5)), .l (.v (.bool a0_6)), .l (.v (.bool a0_7)), .l (.v (.bool a0_8)), .l (.s .ro rng a0_9), .l (.s .ro (.int .u8) a0_10)]]
def F27_r (r : Bool) : A × List (List Leaf) := (.one (.v (.bool r)), [])
def F27_s0 (a0_0 a0_1 a0_2 a0_3 a0_4 : Int) (a0_5 a0_6 a0_7 a0_8 : Bool) (a0_9 : List (den rng)) (a0_10 : List (den (.int .u8))) (x3_0 : Int) : St := ⟨(.one .d) :: (.one (.ptr (.cell 1000) 11 0)) :: (.one .d) :: (.one (.v (.int .i64 x3_0))) :: dz 103 [], [(1000, ⟨.v (.int .i64 a0_0), 0, 0⟩), (1001, ⟨.v (.int .i64 a0_1), 0, 0⟩), (1002, ⟨.v (.int .i64 a0_2), 0, 0⟩), (1003, ⟨.v (.int .i64 a0_3), 0, 0⟩), (1004, ⟨.v (.int .i64 a0_4), 0, 0⟩), (1005, ⟨.v (.bool a0_5), 0, 0⟩), (1006, ⟨.v (.bool a0_6), 0, 0⟩), (1007, ⟨.v (.bool a0_7), 0, 0⟩), (1008, ⟨.v (.bool a0_8), 0, 0⟩), (1009, ⟨.s .ro rng a0_9, 0, 0⟩), (1010, ⟨.s .ro (.int .u8) a0_10, 0, 0⟩)]⟩
def F27_l0_T {β : Type} (k : Nat) (a0_0 a0_1 a0_2 a0_3 a0_4 : Int) (a0_5 a0_6 a0_7 a0_8 : Bool) (a0_9 : List (den rng)) (a0_10 : List (den (.int .u8))) (NX : Int → Option β) (RET : Bool → Option β) (x3_0 : Int) : Option β := cond (decide (x3_0 < ((a0_9.length : Nat) : Int))) (cond (decide (0 ≤ x3_0)) (cond (decide (x3_0 < ((a0_9.length : Nat) : Int))) ((F49 k ((atI a0_9 x3_0).1) 0 65535).bind fun b6 => cond (!b6) (RET false) (cond (decide (0 ≤ x3_0)) (cond (decide (x3_0 < ((a0_9.length : Nat) : Int))) ((F49 k ((atI a0_9 x3_0).2) 0 65535).bind fun b7 => cond (!b7) (RET false) (NX (IntKind.i64.wrap (x3_0 + 1)))) none) none)) none) none) (cond (!a0_6) (cond (a0_3 != 0) (RET false) (cond (a0_4 != 0) (RET false) (cond (decide (((a0_9.length : Nat) : Int) > 0)) (RET false) (cond (!a0_8) (RET true) (cond (!a0_5) (cond (!a0_7) (RET (((a0_10.length : Nat) : Int) == 0)) (RET false)) (RET false)))))) (cond (!a0_8) (RET true) (cond (!a0_5) (cond (!a0_7) (RET (((a0_10.length : Nat) : Int) == 0)) (RET false)) (RET false))))
def F27_l0 (k : Nat) (a0_0 a0_1 a0_2 a0_3 a0_4 : Int) (a0_5 a0_6 a0_7 a0_8 : Bool) (a0_9 : List (den rng)) (a0_10 : List (den (.int .u8))) : Nat → Int → Option (Bool)
  | 0, _ => none
  | n + 1, x3_0 => F27_l0_T k a0_0 a0_1 a0_2 a0_3 a0_4 a0_5 a0_6 a0_7 a0_8 a0_9 a0_10 (fun x3_0 => F27_l0 k a0_0 a0_1 a0_2 a0_3 a0_4 a0_5 a0_6 a0_7 a0_8 a0_9 a0_10 n x3_0) some x3_0
theorem F27_l0_rd {β : Type} (k n : Nat) (a0_0 a0_1 a0_2 a0_3 a0_4 : Int) (a0_5 a0_6 a0_7 a0_8 : Bool) (a0_9 : List (den rng)) (a0_10 : List (den (.int .u8))) (x3_0 : Int) (K : A × List (List Leaf) → Option β) :
    loopG (F27_E k) Try.f27 [1, 1, 0, 1, 0] 0 (kontAt (F27_E k) [1, 1, 0, 1, 0] (bodyOf Try.f27) 0 (endC (F27_E k) Try.f27 (F27_a a0_0 a0_1 a0_2 a0_3 a0_4 a0_5 a0_6 a0_7 a0_8 a0_9 a0_10) K)) (n + 1) (F27_s0 a0_0 a0_1 a0_2 a0_3 a0_4 a0_5 a0_6 a0_7 a0_8 a0_9 a0_10 x3_0) =
    F27_l0_T k a0_0 a0_1 a0_2 a0_3 a0_4 a0_5 a0_6 a0_7 a0_8 a0_9 a0_10 (fun x3_0 => loopG (F27_E k) Try.f27 [1, 1, 0, 1, 0] 0 (kontAt (F27_E k) [1, 1, 0, 1, 0] (bodyOf Try.f27) 0 (endC (F27_E k) Try.f27 (F27_a a0_0 a0_1 a0_2 a0_3 a0_4 a0_5 a0_6 a0_7 a0_8 a0_9 a0_10) K)) n (F27_s0 a0_0 a0_1 a0_2 a0_3 a0_4 a0_5 a0_6 a0_7 a0_8 a0_9 a0_10 x3_0)) (fun r => K (F27_r r)) x3_0 := by kernel_rfl
theorem F27_l0_lp {β : Type} (k : Nat) (a0_0 a0_1 a0_2 a0_3 a0_4 : Int) (a0_5 a0_6 a0_7 a0_8 : Bool) (a0_9 : List (den rng)) (a0_10 : List (den (.int .u8))) (K : A × List (List Leaf) → Option β) (n : Nat) : ∀ (x3_0 : Int), loopG (F27_E k) Try.f27 [1, 1, 0, 1, 0] 0 (kontAt (F27_E k) [1, 1, 0, 1, 0] (bodyOf Try.f27) 0 (endC (F27_E k) Try.f27 (F27_a a0_0 a0_1 a0_2 a0_3 a0_4 a0_5 a0_6 a0_7 a0_8 a0_9 a0_10) K)) n (F27_s0 a0_0 a0_1 a0_2 a0_3 a0_4 a0_5 a0_6 a0_7 a0_8 a0_9 a0_10 x3_0) =
    (F27_l0 k a0_0 a0_1 a0_2 a0_3 a0_4 a0_5 a0_6 a0_7 a0_8 a0_9 a0_10 n x3_0).bind fun r => K (F27_r r) := by
  induction n with
  | zero => intros; rfl
  | succ n ih =>
    intros
    rw [F27_l0_rd, F27_l0]
    simp only [F27_l0_T, bind_cond, Option.bind_assoc, Option.bind_some, Option.bind_none, Option.bind_fun_some, ih]
def F27_T {β : Type} (k : Nat) (a0_0 a0_1 a0_2 a0_3 a0_4 : Int) (a0_5 a0_6 a0_7 a0_8 : Bool) (a0_9 : List (den rng)) (a0_10 : List (den (.int .u8))) (LP0 : Int → Option β) (RET : Bool → Option β) : Option β := (F49 k a0_0 1 255).bind fun b1 => cond (!b1) (RET false) ((F49 k a0_1 1 255).bind fun b2 => cond (!b2) (RET false) ((F49 k a0_2 0 65535).bind fun b3 => cond (!b3) (RET false) ((F49 k a0_3 0 65535).bind fun b4 => cond (!b4) (RET false) ((F49 k a0_4 0 255).bind fun b5 => cond (!b5) (RET false) (cond (decide (((a0_9.length : Nat) : Int) > 2)) (RET false) (cond (decide (((a0_10.length : Nat) : Int) > 12)) (RET false) (LP0 0)))))))
def F27 (k : Nat) (a0_0 a0_1 a0_2 a0_3 a0_4 : Int) (a0_5 a0_6 a0_7 a0_8 : Bool) (a0_9 : List (den rng)) (a0_10 : List (den (.int .u8))) : Option (Bool) := F27_T k a0_0 a0_1 a0_2 a0_3 a0_4 a0_5 a0_6 a0_7 a0_8 a0_9 a0_10 (fun x3_0 => F27_l0 k a0_0 a0_1 a0_2 a0_3 a0_4 a0_5 a0_6 a0_7 a0_8 a0_9 a0_10 k x3_0) some
theorem F27_st {β : Type} (k : Nat) (a0_0 a0_1 a0_2 a0_3 a0_4 : Int) (a0_5 a0_6 a0_7 a0_8 : Bool) (a0_9 : List (den rng)) (a0_10 : List (den (.int .u8))) (K : A × List (List Leaf) → Option β) : evalF (F27_E k) Try.f27 (F27_a a0_0 a0_1 a0_2 a0_3 a0_4 a0_5 a0_6 a0_7 a0_8 a0_9 a0_10) K =
    F27_T k a0_0 a0_1 a0_2 a0_3 a0_4 a0_5 a0_6 a0_7 a0_8 a0_9 a0_10 (fun x3_0 => loopG (F27_E k) Try.f27 [1, 1, 0, 1, 0] 0 (kontAt (F27_E k) [1, 1, 0, 1, 0] (bodyOf Try.f27) 0 (endC (F27_E k) Try.f27 (F27_a a0_0 a0_1 a0_2 a0_3 a0_4 a0_5 a0_6 a0_7 a0_8 a0_9 a0_10) K)) k (F27_s0 a0_0 a0_1 a0_2 a0_3 a0_4 a0_5 a0_6 a0_7 a0_8 a0_9 a0_10 x3_0)) (fun r => K (F27_r r)) := by kernel_rfl
theorem F27_ev {β : Type} (k : Nat) (a0_0 a0_1 a0_2 a0_3 a0_4 : Int) (a0_5 a0_6 a0_7 a0_8 : Bool) (a0_9 : List (den rng)) (a0_10 : List (den (.int .u8))) (K : A × List (List Leaf) → Option β) : evalF (F27_E k) Try.f27 (F27_a a0_0 a0_1 a0_2 a0_3 a0_4 a0_5 a0_6 a0_7 a0_8 a0_9 a0_10) K = (F27 k a0_0 a0_1 a0_2 a0_3 a0_4 a0_5 a0_6 a0_7 a0_8 a0_9 a0_10).bind fun r => K (F27_r r) := by
  rw [F27_st, F27]
  simp only [F27_T, bind_cond, Option.bind_assoc, Option.bind_some, Option.bind_none, Option.bind_fun_some, F27_l0_lp]
theorem F27_tOk (k : Nat) : TabFn Try.prog (F27_t k) := .ent (F49_q k) F49_f (.none)
theorem F27_con (k : Nat) (a0_0 a0_1 a0_2 a0_3 a0_4 : Int) (a0_5 a0_6 a0_7 a0_8 : Bool) (a0_9 : List (den rng)) (a0_10 : List (den (.int .u8))) : Contract Try.prog 27 (F27_a a0_0 a0_1 a0_2 a0_3 a0_4 a0_5 a0_6 a0_7 a0_8 a0_9 a0_10) ⟨F27 k a0_0 a0_1 a0_2 a0_3 a0_4 a0_5 a0_6 a0_7 a0_8 a0_9 a0_10, F27_r⟩ := con_of (envOk (F27_tOk k) _ _ _ _) mixed Try.func27 rfl rfl (F27_ev k a0_0 a0_1 a0_2 a0_3 a0_4 a0_5 a0_6 a0_7 a0_8 a0_9 a0_10 some)
def F27_sh : List AK := [.agg [.l (.int .i64), .l (.int .i64), .l (.int .i64), .l (.int .i64), .l (.int .i64), .l (.bool), .l (.bool), .l (.bool), .l (.bool), .l (.sl .ro rng), .l (.sl .ro (.int .u8))]]
def F27_p (k : Nat) : List Arg → Option CR := cle F27_sh fun x => ⟨F27 k x.1.1 x.1.2.1 x.1.2.2.1 x.1.2.2.2.1 x.1.2.2.2.2.1 x.1.2.2.2.2.2.1 x.1.2.2.2.2.2.2.1 x.1.2.2.2.2.2.2.2.1 x.1.2.2.2.2.2.2.2.2.1 x.1.2.2.2.2.2.2.2.2.2.1 x.1.2.2.2.2.2.2.2.2.2.2.1, F27_r⟩
theorem F27_q (k : Nat) : ∀ xs cr, F27_p k xs = some cr → Contract Try.prog 27 xs cr := cle_ok fun x => F27_con k _ _ _ _ _ _ _ _ _ _ _
theorem F27_f : FnOk Try.prog 27 := .of (by kernel_rfl)
/-! 29: loop.example/netstack/spec.l21Copy -/
abbrev F29_E (k : Nat) : Env := env noTab noHint .own [] k
abbrev F29_a (a0_0 a0_1 a0_2 a0_3 a0_4 : Int) (a0_5 a0_6 a0_7 a0_8 : Bool) (a0_9 : List (den rng)) (a0_10 : List (den (.int .u8))) : List Arg := [.agg [.l (.v (.int .i64 a0_0)), .l (.v (.int .i64 a0_1)), .l (.v (.int .i64 a0_2)), .l (.v (.int .i64 a0_3)), .l (.v (.int .i64 a0_4)), .l (.v (.bool a0_5)), .l (.v (.bool a0_6)), .l (.v (.bool a0_7)), .l (.v (.bool a0_8)), .l (.s .ro rng a0_9), .l (.s .ro (.int .u8) a0_10)]]
def F29_r (r : Int × Int × Int × Int × Int × Bool × Bool × Bool × Bool × List (den rng) × List (den (.int .u8))) : A × List (List Leaf) := (.agg [.v (.int .i64 r.1), .v (.int .i64 r.2.1), .v (.int .i64 r.2.2.1), .v (.int .i64 r.2.2.2.1), .v (.int .i64 r.2.2.2.2.1), .v (.bool r.2.2.2.2.2.1), .v (.bool r.2.2.2.2.2.2.1), .v (.bool r.2.2.2.2.2.2.2.1), .v (.bool r.2.2.2.2.2.2.2.2.1), .s .own rng r.2.2.2.2.2.2.2.2.2.1, .s .own (.int .u8) r.2.2.2.2.2.2.2.2.2.2], [])
def F29_T {β : Type} (k : Nat) (a0_0 a0_1 a0_2 a0_3 a0_4 : Int) (a0_5 a0_6 a0_7 a0_8 : Bool) (a0_9 : List (den rng)) (a0_10 : List (den (.int .u8))) (RET : (Int × Int × Int × Int × Int × Bool × Bool × Bool × Bool × List (den rng) × List (den (.int .u8))) → Option β) : Option β := cond (decide ((([] : List (den rng)).length + a0_9.length) * 16 ≤ 140737488355328)) (cond (decide ((([] : List (den (.int .u8))).length + a0_10.length) * 1 ≤ 140737488355328)) (RET (a0_0, a0_1, a0_2, a0_3, a0_4, a0_5, a0_6, a0_7, a0_8, [] ++ a0_9, [] ++ a0_10)) none) none
def F29 (k : Nat) (a0_0 a0_1 a0_2 a0_3 a0_4 : Int) (a0_5 a0_6 a0_7 a0_8 : Bool) (a0_9 : List (den rng)) (a0_10 : List (den (.int .u8))) : Option (Int × Int × Int × Int × Int × Bool × Bool × Bool × Bool × List (den rng) × List (den (.int .u8))) := F29_T k a0_0 a0_1 a0_2 a0_3 a0_4 a0_5 a0_6 a0_7 a0_8 a0_9 a0_10 some
theorem F29_st {β : Type} (k : Nat) (a0_0 a0_1 a0_2 a0_3 a0_4 : Int) (a0_5 a0_6 a0_7 a0_8 : Bool) (a0_9 : List (den rng)) (a0_10 : List (den (.int .u8))) (K : A × List (List Leaf) → Option β) : evalF (F29_E k) Try.f29 (F29_a a0_0 a0_1 a0_2 a0_3 a0_4 a0_5 a0_6 a0_7 a0_8 a0_9 a0_10) K =
    F29_T k a0_0 a0_1 a0_2 a0_3 a0_4 a0_5 a0_6 a0_7 a0_8 a0_9 a0_10 (fun r => K (F29_r r)) := by kernel_rfl
theorem F29_ev {β : Type} (k : Nat) (a0_0 a0_1 a0_2 a0_3 a0_4 : Int) (a0_5 a0_6 a0_7 a0_8 : Bool) (a0_9 : List (den rng)) (a0_10 : List (den (.int .u8))) (K : A × List (List Leaf) → Option β) : evalF (F29_E k) Try.f29 (F29_a a0_0 a0_1 a0_2 a0_3 a0_4 a0_5 a0_6 a0_7 a0_8 a0_9 a0_10) K = (F29 k a0_0 a0_1 a0_2 a0_3 a0_4 a0_5 a0_6 a0_7 a0_8 a0_9 a0_10).bind fun r => K (F29_r r) := by
  rw [F29_st, F29]
  simp only [F29_T, bind_cond, Option.bind_assoc, Option.bind_some, Option.bind_none, Option.bind_fun_some]
theorem F29_con (k : Nat) (a0_0 a0_1 a0_2 a0_3 a0_4 : Int) (a0_5 a0_6 a0_7 a0_8 : Bool) (a0_9 : List (den rng)) (a0_10 : List (den (.int .u8))) : Contract Try.prog 29 (F29_a a0_0 a0_1 a0_2 a0_3 a0_4 a0_5 a0_6 a0_7 a0_8 a0_9 a0_10) ⟨F29 k a0_0 a0_1 a0_2 a0_3 a0_4 a0_5 a0_6 a0_7 a0_8 a0_9 a0_10, F29_r⟩ := con_of (envOk .none _ _ _ _) mixed Try.func29 rfl rfl (F29_ev k a0_0 a0_1 a0_2 a0_3 a0_4 a0_5 a0_6 a0_7 a0_8 a0_9 a0_10 some)
def F29_sh : List AK := [.agg [.l (.int .i64), .l (.int .i64), .l (.int .i64), .l (.int .i64), .l (.int .i64), .l (.bool), .l (.bool), .l (.bool), .l (.bool), .l (.sl .ro rng), .l (.sl .ro (.int .u8))]]
def F29_p (k : Nat) : List Arg → Option CR := cle F29_sh fun x => ⟨F29 k x.1.1 x.1.2.1 x.1.2.2.1 x.1.2.2.2.1 x.1.2.2.2.2.1 x.1.2.2.2.2.2.1 x.1.2.2.2.2.2.2.1 x.1.2.2.2.2.2.2.2.1 x.1.2.2.2.2.2.2.2.2.1 x.1.2.2.2.2.2.2.2.2.2.1 x.1.2.2.2.2.2.2.2.2.2.2.1, F29_r⟩
theorem F29_q (k : Nat) : ∀ xs cr, F29_p k xs = some cr → Contract Try.prog 29 xs cr := cle_ok fun x => F29_con k _ _ _ _ _ _ _ _ _ _ _
theorem F29_f : FnOk Try.prog 29 := .of (by kernel_rfl)
/-! 50: loop.example/netstack/spec.SeqOf -/
abbrev F50_E (k : Nat) : Env := env noTab noHint .own [] k
abbrev F50_a (a0 : Int) : List Arg := [.one (.l (.v (.int .i64 a0)))]
def F50_r (r : Int) : A × List (List Leaf) := (.one (.v (.int .i64 r)), [])
def F50 (k : Nat) (a0 : Int) : Option (Int) := cond (decide ((a0.tmod 65536) < 0)) (some (IntKind.i64.wrap ((a0.tmod 65536) + 65536))) (some (a0.tmod 65536))
theorem F50_st {β : Type} (k : Nat) (a0 : Int) (K : A × List (List Leaf) → Option β) : evalF (F50_E k) Try.f50 (F50_a a0) K =
    cond (decide ((a0.tmod 65536) < 0)) (K (.one (.v (.int .i64 (IntKind.i64.wrap ((a0.tmod 65536) + 65536)))), [])) (K (.one (.v (.int .i64 (a0.tmod 65536))), [])) := by kernel_rfl
theorem F50_ev {β : Type} (k : Nat) (a0 : Int) (K : A × List (List Leaf) → Option β) : evalF (F50_E k) Try.f50 (F50_a a0) K = (F50 k a0).bind fun r => K (F50_r r) := by
  rw [F50_st, F50]
  simp only [F50_r, bind_cond, Option.bind_assoc, Option.bind_some, Option.bind_none, Option.bind_fun_some]
theorem F50_con (k : Nat) (a0 : Int) : Contract Try.prog 50 (F50_a a0) ⟨F50 k a0, F50_r⟩ := con_of (envOk .none _ _ _ _) mixed Try.func50 rfl rfl (F50_ev k a0 some)
def F50_sh : List AK := [.one (.l (.int .i64))]
def F50_p (k : Nat) : List Arg → Option CR := cle F50_sh fun x => ⟨F50 k x.1, F50_r⟩
theorem F50_q (k : Nat) : ∀ xs cr, F50_p k xs = some cr → Contract Try.prog 50 xs cr := cle_ok fun x => F50_con k _
theorem F50_f : FnOk Try.prog 50 := .of (by kernel_rfl)
/-! 23: loop.example/netstack/spec.SegmentCut -/
def F23_h : Nat → Hint
  | 0 => ⟨[(1, .plain), (2, .plain), (5, .own .own seg []), (6, .plain)], [(2000, .plain), (2001, .plain), (2002, .plain), (2003, .plain), (2004, .plain), (2005, .plain), (2006, .plain), (2007, .plain), (2008, .plain), (2009, .plain), (2010, .plain)]⟩
  | _ => ⟨[], []⟩
def F23_t (k : Nat) : Tab := entT 27 (F27_p k) <| entT 49 (F49_p k) <| entT 29 (F29_p k) <| entT 50 (F50_p k) <| noTab
abbrev F23_E (k : Nat) : Env := env (F23_t k) F23_h .own [] k
abbrev F23_a (a0_0 a0_1 a0_2 a0_3 a0_4 : Int) (a0_5 a0_6 a0_7 a0_8 : Bool) (a0_9 : List (den rng)) (a0_10 : List (den (.int .u8))) (a1 : Int) : List Arg := [.agg [.l (.v (.int .i64 a0_0)), .l (.v (.int .i64 a0_1)), .l (.v (.int .i64 a0_2)), .l (.v (.int .i64 a0_3)), .l (.v (.int .i64 a0_4)), .l (.v (.bool a0_5)), .l (.v (.bool a0_6)), .l (.v (.bool a0_7)), .l (.v (.bool a0_8)), .l (.s .ro rng a0_9), .l (.s .ro (.int .u8) a0_10)], .one (.l (.v (.int .i64 a1)))]
def F23_r (r : List (den seg)) : A × List (List Leaf) := (.one (.s .own seg r), [])
def F23_s0 (a0_0 a0_1 a0_2 a0_3 a0_4 : Int) (a0_5 a0_6 a0_7 a0_8 : Bool) (a0_9 : List (den rng)) (a0_10 : List (den (.int .u8))) (a1 : Int) (x6_0 : Int) (m5900_0 : List (den seg)) : St := ⟨(.one .d) :: (.one (.v (.int .i64 a1))) :: (.one (.ptr (.cell 2000) 11 0)) :: (.one .d) :: (.one .d) :: (.one (.a (.cell 5900) 0 0 none)) :: (.one (.v (.int .i64 x6_0))) :: dz 74 [], [(2000, ⟨.v (.int .i64 a0_0), 0, 0⟩), (2001, ⟨.v (.int .i64 a0_1), 0, 0⟩), (2002, ⟨.v (.int .i64 a0_2), 0, 0⟩), (2003, ⟨.v (.int .i64 a0_3), 0, 0⟩), (2004, ⟨.v (.int .i64 a0_4), 0, 0⟩), (2005, ⟨.v (.bool a0_5), 0, 0⟩), (2006, ⟨.v (.bool a0_6), 0, 0⟩), (2007, ⟨.v (.bool a0_7), 0, 0⟩), (2008, ⟨.v (.bool a0_8), 0, 0⟩), (2009, ⟨.s .ro rng a0_9, 0, 0⟩), (2010, ⟨.s .ro (.int .u8) a0_10, 0, 0⟩), (5900, ⟨.s .own seg m5900_0, 0, 0⟩)]⟩
def F23_l0_j2 {β : Type} (k : Nat) (a0_0 a0_1 a0_2 a0_3 a0_4 : Int) (a0_5 a0_6 a0_7 a0_8 : Bool) (a0_9 : List (den rng)) (a0_10 : List (den (.int .u8))) (a1 : Int) (NX : Int → List (den seg) → Option β) (RET : List (den seg) → Option β) (m5900_0 : List (den seg)) (b3 : Int × Int × Int × Int × Int × Bool × Bool × Bool × Bool × List (den rng) × List (den (.int .u8))) (b5 x6_0 : Int) : Option β := cond a0_7 (cond (decide ((m5900_0.length + [(b3.1, b3.2.1, b5, b3.2.2.2.1, b3.2.2.2.2.1, false, b3.2.2.2.2.2.2.1, ((if ((a0_10.length : Nat) : Int) < (IntKind.i64.wrap (x6_0 + a1)) then ((a0_10.length : Nat) : Int) else IntKind.i64.wrap (x6_0 + a1)) == ((a0_10.length : Nat) : Int)), b3.2.2.2.2.2.2.2.2.1, b3.2.2.2.2.2.2.2.2.2.1, [] ++ ((a0_10.take ((if ((a0_10.length : Nat) : Int) < (IntKind.i64.wrap (x6_0 + a1)) then ((a0_10.length : Nat) : Int) else IntKind.i64.wrap (x6_0 + a1)).toNat)).drop x6_0.toNat))].length) * 96 ≤ 140737488355328)) (NX (IntKind.i64.wrap (x6_0 + a1)) (m5900_0 ++ [(b3.1, b3.2.1, b5, b3.2.2.2.1, b3.2.2.2.2.1, false, b3.2.2.2.2.2.2.1, ((if ((a0_10.length : Nat) : Int) < (IntKind.i64.wrap (x6_0 + a1)) then ((a0_10.length : Nat) : Int) else IntKind.i64.wrap (x6_0 + a1)) == ((a0_10.length : Nat) : Int)), b3.2.2.2.2.2.2.2.2.1, b3.2.2.2.2.2.2.2.2.2.1, [] ++ ((a0_10.take ((if ((a0_10.length : Nat) : Int) < (IntKind.i64.wrap (x6_0 + a1)) then ((a0_10.length : Nat) : Int) else IntKind.i64.wrap (x6_0 + a1)).toNat)).drop x6_0.toNat))])) none) (cond (decide ((m5900_0.length + [(b3.1, b3.2.1, b5, b3.2.2.2.1, b3.2.2.2.2.1, false, b3.2.2.2.2.2.2.1, false, b3.2.2.2.2.2.2.2.2.1, b3.2.2.2.2.2.2.2.2.2.1, [] ++ ((a0_10.take ((if ((a0_10.length : Nat) : Int) < (IntKind.i64.wrap (x6_0 + a1)) then ((a0_10.length : Nat) : Int) else IntKind.i64.wrap (x6_0 + a1)).toNat)).drop x6_0.toNat))].length) * 96 ≤ 140737488355328)) (NX (IntKind.i64.wrap (x6_0 + a1)) (m5900_0 ++ [(b3.1, b3.2.1, b5, b3.2.2.2.1, b3.2.2.2.2.1, false, b3.2.2.2.2.2.2.1, false, b3.2.2.2.2.2.2.2.2.1, b3.2.2.2.2.2.2.2.2.2.1, [] ++ ((a0_10.take ((if ((a0_10.length : Nat) : Int) < (IntKind.i64.wrap (x6_0 + a1)) then ((a0_10.length : Nat) : Int) else IntKind.i64.wrap (x6_0 + a1)).toNat)).drop x6_0.toNat))])) none)
def F23_l0_j1 {β : Type} (k : Nat) (a0_0 a0_1 a0_2 a0_3 a0_4 : Int) (a0_5 a0_6 a0_7 a0_8 : Bool) (a0_9 : List (den rng)) (a0_10 : List (den (.int .u8))) (a1 : Int) (NX : Int → List (den seg) → Option β) (RET : List (den seg) → Option β) (x6_0 : Int) (m5900_0 : List (den seg)) : Option β := (F29 k a0_0 a0_1 a0_2 a0_3 a0_4 a0_5 a0_6 a0_7 a0_8 a0_9 a0_10).bind fun b3 => cond (decide (0 ≤ (if ((a0_10.length : Nat) : Int) < (IntKind.i64.wrap (x6_0 + a1)) then ((a0_10.length : Nat) : Int) else IntKind.i64.wrap (x6_0 + a1))) && decide ((if ((a0_10.length : Nat) : Int) < (IntKind.i64.wrap (x6_0 + a1)) then ((a0_10.length : Nat) : Int) else IntKind.i64.wrap (x6_0 + a1)) ≤ ((a0_10.length : Nat) : Int))) (cond (decide (0 ≤ x6_0) && decide (x6_0 ≤ (if ((a0_10.length : Nat) : Int) < (IntKind.i64.wrap (x6_0 + a1)) then ((a0_10.length : Nat) : Int) else IntKind.i64.wrap (x6_0 + a1)))) (cond (decide ((([] : List (den (.int .u8))).length + ((a0_10.take ((if ((a0_10.length : Nat) : Int) < (IntKind.i64.wrap (x6_0 + a1)) then ((a0_10.length : Nat) : Int) else IntKind.i64.wrap (x6_0 + a1)).toNat)).drop x6_0.toNat).length) * 1 ≤ 140737488355328)) (cond (decide (x6_0 > 0)) ((F50 k (IntKind.i64.wrap (a0_2 + x6_0))).bind fun b4 => cond a0_5 ((F50 k (IntKind.i64.wrap ((IntKind.i64.wrap (a0_2 + x6_0)) + 1))).bind fun b5 => F23_l0_j2 k a0_0 a0_1 a0_2 a0_3 a0_4 a0_5 a0_6 a0_7 a0_8 a0_9 a0_10 a1 NX RET m5900_0 b3 b5 x6_0) (F23_l0_j2 k a0_0 a0_1 a0_2 a0_3 a0_4 a0_5 a0_6 a0_7 a0_8 a0_9 a0_10 a1 NX RET m5900_0 b3 b4 x6_0)) (cond a0_7 (cond (decide ((m5900_0.length + [(b3.1, b3.2.1, b3.2.2.1, b3.2.2.2.1, b3.2.2.2.2.1, b3.2.2.2.2.2.1, b3.2.2.2.2.2.2.1, ((if ((a0_10.length : Nat) : Int) < (IntKind.i64.wrap (x6_0 + a1)) then ((a0_10.length : Nat) : Int) else IntKind.i64.wrap (x6_0 + a1)) == ((a0_10.length : Nat) : Int)), b3.2.2.2.2.2.2.2.2.1, b3.2.2.2.2.2.2.2.2.2.1, [] ++ ((a0_10.take ((if ((a0_10.length : Nat) : Int) < (IntKind.i64.wrap (x6_0 + a1)) then ((a0_10.length : Nat) : Int) else IntKind.i64.wrap (x6_0 + a1)).toNat)).drop x6_0.toNat))].length) * 96 ≤ 140737488355328)) (NX (IntKind.i64.wrap (x6_0 + a1)) (m5900_0 ++ [(b3.1, b3.2.1, b3.2.2.1, b3.2.2.2.1, b3.2.2.2.2.1, b3.2.2.2.2.2.1, b3.2.2.2.2.2.2.1, ((if ((a0_10.length : Nat) : Int) < (IntKind.i64.wrap (x6_0 + a1)) then ((a0_10.length : Nat) : Int) else IntKind.i64.wrap (x6_0 + a1)) == ((a0_10.length : Nat) : Int)), b3.2.2.2.2.2.2.2.2.1, b3.2.2.2.2.2.2.2.2.2.1, [] ++ ((a0_10.take ((if ((a0_10.length : Nat) : Int) < (IntKind.i64.wrap (x6_0 + a1)) then ((a0_10.length : Nat) : Int) else IntKind.i64.wrap (x6_0 + a1)).toNat)).drop x6_0.toNat))])) none) (cond (decide ((m5900_0.length + [(b3.1, b3.2.1, b3.2.2.1, b3.2.2.2.1, b3.2.2.2.2.1, b3.2.2.2.2.2.1, b3.2.2.2.2.2.2.1, false, b3.2.2.2.2.2.2.2.2.1, b3.2.2.2.2.2.2.2.2.2.1, [] ++ ((a0_10.take ((if ((a0_10.length : Nat) : Int) < (IntKind.i64.wrap (x6_0 + a1)) then ((a0_10.length : Nat) : Int) else IntKind.i64.wrap (x6_0 + a1)).toNat)).drop x6_0.toNat))].length) * 96 ≤ 140737488355328)) (NX (IntKind.i64.wrap (x6_0 + a1)) (m5900_0 ++ [(b3.1, b3.2.1, b3.2.2.1, b3.2.2.2.1, b3.2.2.2.2.1, b3.2.2.2.2.2.1, b3.2.2.2.2.2.2.1, false, b3.2.2.2.2.2.2.2.2.1, b3.2.2.2.2.2.2.2.2.2.1, [] ++ ((a0_10.take ((if ((a0_10.length : Nat) : Int) < (IntKind.i64.wrap (x6_0 + a1)) then ((a0_10.length : Nat) : Int) else IntKind.i64.wrap (x6_0 + a1)).toNat)).drop x6_0.toNat))])) none))) none) none) none
def F23_l0_T {β : Type} (k : Nat) (a0_0 a0_1 a0_2 a0_3 a0_4 : Int) (a0_5 a0_6 a0_7 a0_8 : Bool) (a0_9 : List (den rng)) (a0_10 : List (den (.int .u8))) (a1 : Int) (NX : Int → List (den seg) → Option β) (RET : List (den seg) → Option β) (x6_0 : Int) (m5900_0 : List (den seg)) : Option β := cond (x6_0 == 0) (F23_l0_j1 k a0_0 a0_1 a0_2 a0_3 a0_4 a0_5 a0_6 a0_7 a0_8 a0_9 a0_10 a1 NX RET x6_0 m5900_0) (cond (decide (x6_0 < ((a0_10.length : Nat) : Int))) (F23_l0_j1 k a0_0 a0_1 a0_2 a0_3 a0_4 a0_5 a0_6 a0_7 a0_8 a0_9 a0_10 a1 NX RET x6_0 m5900_0) (RET m5900_0))
def F23_l0 (k : Nat) (a0_0 a0_1 a0_2 a0_3 a0_4 : Int) (a0_5 a0_6 a0_7 a0_8 : Bool) (a0_9 : List (den rng)) (a0_10 : List (den (.int .u8))) (a1 : Int) : Nat → Int → List (den seg) → Option (List (den seg))
  | 0, _, _ => none
  | n + 1, x6_0, m5900_0 => F23_l0_T k a0_0 a0_1 a0_2 a0_3 a0_4 a0_5 a0_6 a0_7 a0_8 a0_9 a0_10 a1 (fun x6_0 m5900_0 => F23_l0 k a0_0 a0_1 a0_2 a0_3 a0_4 a0_5 a0_6 a0_7 a0_8 a0_9 a0_10 a1 n x6_0 m5900_0) some x6_0 m5900_0
theorem F23_l0_rd {β : Type} (k n : Nat) (a0_0 a0_1 a0_2 a0_3 a0_4 : Int) (a0_5 a0_6 a0_7 a0_8 : Bool) (a0_9 : List (den rng)) (a0_10 : List (den (.int .u8))) (a1 : Int) (x6_0 : Int) (m5900_0 : List (den seg)) (K : A × List (List Leaf) → Option β) :
    loopG (F23_E k) Try.f23 [1, 1, 1, 0, 1, 0] 0 (kontAt (F23_E k) [1, 1, 1, 0, 1, 0] (bodyOf Try.f23) 0 (endC (F23_E k) Try.f23 (F23_a a0_0 a0_1 a0_2 a0_3 a0_4 a0_5 a0_6 a0_7 a0_8 a0_9 a0_10 a1) K)) (n + 1) (F23_s0 a0_0 a0_1 a0_2 a0_3 a0_4 a0_5 a0_6 a0_7 a0_8 a0_9 a0_10 a1 x6_0 m5900_0) =
    F23_l0_T k a0_0 a0_1 a0_2 a0_3 a0_4 a0_5 a0_6 a0_7 a0_8 a0_9 a0_10 a1 (fun x6_0 m5900_0 => loopG (F23_E k) Try.f23 [1, 1, 1, 0, 1, 0] 0 (kontAt (F23_E k) [1, 1, 1, 0, 1, 0] (bodyOf Try.f23) 0 (endC (F23_E k) Try.f23 (F23_a a0_0 a0_1 a0_2 a0_3 a0_4 a0_5 a0_6 a0_7 a0_8 a0_9 a0_10 a1) K)) n (F23_s0 a0_0 a0_1 a0_2 a0_3 a0_4 a0_5 a0_6 a0_7 a0_8 a0_9 a0_10 a1 x6_0 m5900_0)) (fun r => K (F23_r r)) x6_0 m5900_0 := by kernel_rfl
theorem F23_l0_lp {β : Type} (k : Nat) (a0_0 a0_1 a0_2 a0_3 a0_4 : Int) (a0_5 a0_6 a0_7 a0_8 : Bool) (a0_9 : List (den rng)) (a0_10 : List (den (.int .u8))) (a1 : Int) (K : A × List (List Leaf) → Option β) (n : Nat) : ∀ (x6_0 : Int) (m5900_0 : List (den seg)), loopG (F23_E k) Try.f23 [1, 1, 1, 0, 1, 0] 0 (kontAt (F23_E k) [1, 1, 1, 0, 1, 0] (bodyOf Try.f23) 0 (endC (F23_E k) Try.f23 (F23_a a0_0 a0_1 a0_2 a0_3 a0_4 a0_5 a0_6 a0_7 a0_8 a0_9 a0_10 a1) K)) n (F23_s0 a0_0 a0_1 a0_2 a0_3 a0_4 a0_5 a0_6 a0_7 a0_8 a0_9 a0_10 a1 x6_0 m5900_0) =
    (F23_l0 k a0_0 a0_1 a0_2 a0_3 a0_4 a0_5 a0_6 a0_7 a0_8 a0_9 a0_10 a1 n x6_0 m5900_0).bind fun r => K (F23_r r) := by
  induction n with
  | zero => intros; rfl
  | succ n ih =>
    intros
    rw [F23_l0_rd, F23_l0]
    simp only [F23_l0_T, F23_l0_j2, F23_l0_j1, bind_cond, Option.bind_assoc, Option.bind_some, Option.bind_none, Option.bind_fun_some, ih]
def F23_T {β : Type} (k : Nat) (a0_0 a0_1 a0_2 a0_3 a0_4 : Int) (a0_5 a0_6 a0_7 a0_8 : Bool) (a0_9 : List (den rng)) (a0_10 : List (den (.int .u8))) (a1 : Int) (LP0 : Int → List (den seg) → Option β) (RET : List (den seg) → Option β) : Option β := (F27 k a0_0 a0_1 a0_2 a0_3 a0_4 a0_5 a0_6 a0_7 a0_8 a0_9 a0_10).bind fun b1 => cond (!b1) (RET []) ((F49 k a1 1 12).bind fun b2 => cond (!b2) (RET []) (LP0 0 []))
def F23 (k : Nat) (a0_0 a0_1 a0_2 a0_3 a0_4 : Int) (a0_5 a0_6 a0_7 a0_8 : Bool) (a0_9 : List (den rng)) (a0_10 : List (den (.int .u8))) (a1 : Int) : Option (List (den seg)) := F23_T k a0_0 a0_1 a0_2 a0_3 a0_4 a0_5 a0_6 a0_7 a0_8 a0_9 a0_10 a1 (fun x6_0 m5900_0 => F23_l0 k a0_0 a0_1 a0_2 a0_3 a0_4 a0_5 a0_6 a0_7 a0_8 a0_9 a0_10 a1 k x6_0 m5900_0) some
theorem F23_st {β : Type} (k : Nat) (a0_0 a0_1 a0_2 a0_3 a0_4 : Int) (a0_5 a0_6 a0_7 a0_8 : Bool) (a0_9 : List (den rng)) (a0_10 : List (den (.int .u8))) (a1 : Int) (K : A × List (List Leaf) → Option β) : evalF (F23_E k) Try.f23 (F23_a a0_0 a0_1 a0_2 a0_3 a0_4 a0_5 a0_6 a0_7 a0_8 a0_9 a0_10 a1) K =
    F23_T k a0_0 a0_1 a0_2 a0_3 a0_4 a0_5 a0_6 a0_7 a0_8 a0_9 a0_10 a1 (fun x6_0 m5900_0 => loopG (F23_E k) Try.f23 [1, 1, 1, 0, 1, 0] 0 (kontAt (F23_E k) [1, 1, 1, 0, 1, 0] (bodyOf Try.f23) 0 (endC (F23_E k) Try.f23 (F23_a a0_0 a0_1 a0_2 a0_3 a0_4 a0_5 a0_6 a0_7 a0_8 a0_9 a0_10 a1) K)) k (F23_s0 a0_0 a0_1 a0_2 a0_3 a0_4 a0_5 a0_6 a0_7 a0_8 a0_9 a0_10 a1 x6_0 m5900_0)) (fun r => K (F23_r r)) := by kernel_rfl
theorem F23_ev {β : Type} (k : Nat) (a0_0 a0_1 a0_2 a0_3 a0_4 : Int) (a0_5 a0_6 a0_7 a0_8 : Bool) (a0_9 : List (den rng)) (a0_10 : List (den (.int .u8))) (a1 : Int) (K : A × List (List Leaf) → Option β) : evalF (F23_E k) Try.f23 (F23_a a0_0 a0_1 a0_2 a0_3 a0_4 a0_5 a0_6 a0_7 a0_8 a0_9 a0_10 a1) K = (F23 k a0_0 a0_1 a0_2 a0_3 a0_4 a0_5 a0_6 a0_7 a0_8 a0_9 a0_10 a1).bind fun r => K (F23_r r) := by
  rw [F23_st, F23]
  simp only [F23_T, bind_cond, Option.bind_assoc, Option.bind_some, Option.bind_none, Option.bind_fun_some, F23_l0_lp]
theorem F23_tOk (k : Nat) : TabFn Try.prog (F23_t k) := .ent (F27_q k) F27_f (.ent (F49_q k) F49_f (.ent (F29_q k) F29_f (.ent (F50_q k) F50_f (.none))))
theorem F23_con (k : Nat) (a0_0 a0_1 a0_2 a0_3 a0_4 : Int) (a0_5 a0_6 a0_7 a0_8 : Bool) (a0_9 : List (den rng)) (a0_10 : List (den (.int .u8))) (a1 : Int) : Contract Try.prog 23 (F23_a a0_0 a0_1 a0_2 a0_3 a0_4 a0_5 a0_6 a0_7 a0_8 a0_9 a0_10 a1) ⟨F23 k a0_0 a0_1 a0_2 a0_3 a0_4 a0_5 a0_6 a0_7 a0_8 a0_9 a0_10 a1, F23_r⟩ := con_of (envOk (F23_tOk k) _ _ _ _) mixed Try.func23 rfl rfl (F23_ev k a0_0 a0_1 a0_2 a0_3 a0_4 a0_5 a0_6 a0_7 a0_8 a0_9 a0_10 a1 some)
def F23_sh : List AK := [.agg [.l (.int .i64), .l (.int .i64), .l (.int .i64), .l (.int .i64), .l (.int .i64), .l (.bool), .l (.bool), .l (.bool), .l (.bool), .l (.sl .ro rng), .l (.sl .ro (.int .u8))], .one (.l (.int .i64))]
def F23_p (k : Nat) : List Arg → Option CR := cle F23_sh fun x => ⟨F23 k x.1.1 x.1.2.1 x.1.2.2.1 x.1.2.2.2.1 x.1.2.2.2.2.1 x.1.2.2.2.2.2.1 x.1.2.2.2.2.2.2.1 x.1.2.2.2.2.2.2.2.1 x.1.2.2.2.2.2.2.2.2.1 x.1.2.2.2.2.2.2.2.2.2.1 x.1.2.2.2.2.2.2.2.2.2.2.1 x.2.1, F23_r⟩
theorem F23_q (k : Nat) : ∀ xs cr, F23_p k xs = some cr → Contract Try.prog 23 xs cr := cle_ok fun x => F23_con k _ _ _ _ _ _ _ _ _ _ _ _
theorem F23_f : FnOk Try.prog 23 := .of (by kernel_rfl)
/-! 5: loop.example/netstack/spec.DrawSegmentsJoined -/
def F5_h : Nat → Hint
  | 0 => ⟨[(3, .plain), (4, .own .own seg []), (5, .plain)], [(9000, .plain), (9001, .plain)]⟩
  | _ => ⟨[], []⟩
def F5_t (k : Nat) : Tab := entT 19 (F19_p k) <| entT 20 (F20_p k) <| entT 21 (F21_p k) <| entT 22 (F22_p k) <| entT 23 (F23_p k) <| noTab
abbrev F5_E (k : Nat) : Env := env (F5_t k) F5_h .own [] k
abbrev F5_a (a0 : List (den (.int .u8))) : List Arg := [.one (.l (.s .ro (.int .u8) a0))]
def F5_r (r : List (den seg)) : A × List (List Leaf) := (.one (.s .own seg r), [])
def F5_s0 (a0 : List (den (.int .u8))) (x5_0 : Int) (m9000_0 : List (den (.int .u8))) (m9001_0 : Int) (m4900_0 : List (den seg)) : St := ⟨dz 3 ((.one (.ptr (.cell 9000) 2 0)) :: (.one (.a (.cell 4900) 0 0 none)) :: (.one (.v (.int .i64 x5_0))) :: dz 35 []), [(9000, ⟨.s .ro (.int .u8) m9000_0, 0, 0⟩), (9001, ⟨.v (.int .i64 m9001_0), 0, 0⟩), (4900, ⟨.s .own seg m4900_0, 0, 0⟩)]⟩
def F5_l0_j1 {β : Type} (k : Nat) (a0 : List (den (.int .u8))) (NX : Int → List (den (.int .u8)) → Int → List (den seg) → Option β) (RET : List (den seg) → Option β) (m4900_0 b8 : List (den seg)) (x5_0 : Int) (b7 : Int × List (den (.int .u8)) × Int) : Option β := cond (decide ((m4900_0.length + b8.length) * 96 ≤ 140737488355328)) (NX (IntKind.i64.wrap (x5_0 - 1)) b7.2.1 b7.2.2 (m4900_0 ++ b8)) none
def F5_l0_j2 {β : Type} (k : Nat) (a0 : List (den (.int .u8))) (NX : Int → List (den (.int .u8)) → Int → List (den seg) → Option β) (RET : List (den seg) → Option β) (b3 : Int × Int × Int × Int × Int × Bool × Bool × Bool × Bool × List (den rng) × List (den (.int .u8)) × List (den (.int .u8)) × Int) (b9 : Int × List (den (.int .u8)) × Int) (m4900_0 : List (den seg)) (x5_0 : Int) : Option β := (F23 k b3.1 b3.2.1 b3.2.2.1 b3.2.2.2.1 b3.2.2.2.2.1 b3.2.2.2.2.2.1 b3.2.2.2.2.2.2.1 b3.2.2.2.2.2.2.2.1 b3.2.2.2.2.2.2.2.2.1 b3.2.2.2.2.2.2.2.2.2.1 b3.2.2.2.2.2.2.2.2.2.2.1 (IntKind.i64.wrap (1 + b9.1))).bind fun b10 => F5_l0_j1 k a0 NX RET m4900_0 b10 x5_0 b9
def F5_l0_T {β : Type} (k : Nat) (a0 : List (den (.int .u8))) (NX : Int → List (den (.int .u8)) → Int → List (den seg) → Option β) (RET : List (den seg) → Option β) (x5_0 : Int) (m9000_0 : List (den (.int .u8))) (m9001_0 : Int) (m4900_0 : List (den seg)) : Option β := cond (decide (x5_0 > 0)) ((F21 k m9000_0 m9001_0 40).bind fun b3 => cond (!b3.2.2.2.2.2.2.2.2.1) ((F20 k b3.2.2.2.2.2.2.2.2.2.2.2.1 b3.2.2.2.2.2.2.2.2.2.2.2.2 2).bind fun b4 => cond (b4.1 == 0) ((F20 k b4.2.1 b4.2.2 13).bind fun b5 => (F22 k b5.2.1 b5.2.2 b5.1).bind fun b6 => (F20 k b6.2.1 b6.2.2 6).bind fun b7 => (F23 k b3.1 b3.2.1 b3.2.2.1 b3.2.2.2.1 b3.2.2.2.2.1 b3.2.2.2.2.2.1 b3.2.2.2.2.2.2.1 b3.2.2.2.2.2.2.2.1 b3.2.2.2.2.2.2.2.2.1 b3.2.2.2.2.2.2.2.2.2.1 b6.1 (IntKind.i64.wrap (1 + b7.1))).bind fun b8 => F5_l0_j1 k a0 NX RET m4900_0 b8 x5_0 b7) ((F20 k b4.2.1 b4.2.2 6).bind fun b9 => F5_l0_j2 k a0 NX RET b3 b9 m4900_0 x5_0)) ((F20 k b3.2.2.2.2.2.2.2.2.2.2.2.1 b3.2.2.2.2.2.2.2.2.2.2.2.2 6).bind fun b11 => F5_l0_j2 k a0 NX RET b3 b11 m4900_0 x5_0)) (RET m4900_0)
def F5_l0 (k : Nat) (a0 : List (den (.int .u8))) : Nat → Int → List (den (.int .u8)) → Int → List (den seg) → Option (List (den seg))
  | 0, _, _, _, _ => none
  | n + 1, x5_0, m9000_0, m9001_0, m4900_0 => F5_l0_T k a0 (fun x5_0 m9000_0 m9001_0 m4900_0 => F5_l0 k a0 n x5_0 m9000_0 m9001_0 m4900_0) some x5_0 m9000_0 m9001_0 m4900_0
theorem F5_l0_rd {β : Type} (k n : Nat) (a0 : List (den (.int .u8))) (x5_0 : Int) (m9000_0 : List (den (.int .u8))) (m9001_0 : Int) (m4900_0 : List (den seg)) (K : A × List (List Leaf) → Option β) :
    loopG (F5_E k) Try.f5 [1, 1, 1, 0, 1, 0] 0 (kontAt (F5_E k) [1, 1, 1, 0, 1, 0] (bodyOf Try.f5) 0 (endC (F5_E k) Try.f5 (F5_a a0) K)) (n + 1) (F5_s0 a0 x5_0 m9000_0 m9001_0 m4900_0) =
    F5_l0_T k a0 (fun x5_0 m9000_0 m9001_0 m4900_0 => loopG (F5_E k) Try.f5 [1, 1, 1, 0, 1, 0] 0 (kontAt (F5_E k) [1, 1, 1, 0, 1, 0] (bodyOf Try.f5) 0 (endC (F5_E k) Try.f5 (F5_a a0) K)) n (F5_s0 a0 x5_0 m9000_0 m9001_0 m4900_0)) (fun r => K (F5_r r)) x5_0 m9000_0 m9001_0 m4900_0 := by kernel_rfl
theorem F5_l0_lp {β : Type} (k : Nat) (a0 : List (den (.int .u8))) (K : A × List (List Leaf) → Option β) (n : Nat) : ∀ (x5_0 : Int) (m9000_0 : List (den (.int .u8))) (m9001_0 : Int) (m4900_0 : List (den seg)), loopG (F5_E k) Try.f5 [1, 1, 1, 0, 1, 0] 0 (kontAt (F5_E k) [1, 1, 1, 0, 1, 0] (bodyOf Try.f5) 0 (endC (F5_E k) Try.f5 (F5_a a0) K)) n (F5_s0 a0 x5_0 m9000_0 m9001_0 m4900_0) =
    (F5_l0 k a0 n x5_0 m9000_0 m9001_0 m4900_0).bind fun r => K (F5_r r) := by
  induction n with
  | zero => intros; rfl
  | succ n ih =>
    intros
    rw [F5_l0_rd, F5_l0]
    simp only [F5_l0_T, F5_l0_j1, F5_l0_j2, bind_cond, Option.bind_assoc, Option.bind_some, Option.bind_none, Option.bind_fun_some, ih]
def F5_T {β : Type} (k : Nat) (a0 : List (den (.int .u8))) (LP0 : Int → List (den (.int .u8)) → Int → List (den seg) → Option β) : Option β := (F19 k a0).bind fun b1 => (F20 k b1.1 b1.2 4).bind fun b2 => LP0 b2.1 b2.2.1 b2.2.2 []
def F5 (k : Nat) (a0 : List (den (.int .u8))) : Option (List (den seg)) := F5_T k a0 (fun x5_0 m9000_0 m9001_0 m4900_0 => F5_l0 k a0 k x5_0 m9000_0 m9001_0 m4900_0)
theorem F5_st {β : Type} (k : Nat) (a0 : List (den (.int .u8))) (K : A × List (List Leaf) → Option β) : evalF (F5_E k) Try.f5 (F5_a a0) K =
    F5_T k a0 (fun x5_0 m9000_0 m9001_0 m4900_0 => loopG (F5_E k) Try.f5 [1, 1, 1, 0, 1, 0] 0 (kontAt (F5_E k) [1, 1, 1, 0, 1, 0] (bodyOf Try.f5) 0 (endC (F5_E k) Try.f5 (F5_a a0) K)) k (F5_s0 a0 x5_0 m9000_0 m9001_0 m4900_0)) := by kernel_rfl
theorem F5_ev {β : Type} (k : Nat) (a0 : List (den (.int .u8))) (K : A × List (List Leaf) → Option β) : evalF (F5_E k) Try.f5 (F5_a a0) K = (F5 k a0).bind fun r => K (F5_r r) := by
  rw [F5_st, F5]
  simp only [F5_T, bind_cond, Option.bind_assoc, Option.bind_some, Option.bind_none, Option.bind_fun_some, F5_l0_lp]
theorem F5_tOk (k : Nat) : TabFn Try.prog (F5_t k) := .ent (F19_q k) F19_f (.ent (F20_q k) F20_f (.ent (F21_q k) F21_f (.ent (F22_q k) F22_f (.ent (F23_q k) F23_f (.none)))))
theorem F5_con (k : Nat) (a0 : List (den (.int .u8))) : Contract Try.prog 5 (F5_a a0) ⟨F5 k a0, F5_r⟩ := con_of (envOk (F5_tOk k) _ _ _ _) mixed Try.func5 rfl rfl (F5_ev k a0 some)
def F5_sh : List AK := [.one (.l (.sl .ro (.int .u8)))]
def F5_p (k : Nat) : List Arg → Option CR := cle F5_sh fun x => ⟨F5 k x.1, F5_r⟩
theorem F5_q (k : Nat) : ∀ xs cr, F5_p k xs = some cr → Contract Try.prog 5 xs cr := cle_ok fun x => F5_con k _
theorem F5_f : FnOk Try.prog 5 := .of (by kernel_rfl)
/-! 33: loop.example/netstack/impl.in -/
abbrev F33_E (k : Nat) : Env := env noTab noHint .own [] k
abbrev F33_a (a0 a1 a2 : Int) : List Arg := [.one (.l (.v (.int .i64 a0))), .one (.l (.v (.int .i64 a1))), .one (.l (.v (.int .i64 a2)))]
def F33_r (r : Bool) : A × List (List Leaf) := (.one (.v (.bool r)), [])
def F33 (k : Nat) (a0 a1 a2 : Int) : Option (Bool) := cond (decide (a0 ≥ a1)) (some (decide (a0 ≤ a2))) (some false)
theorem F33_st {β : Type} (k : Nat) (a0 a1 a2 : Int) (K : A × List (List Leaf) → Option β) : evalF (F33_E k) Try.f33 (F33_a a0 a1 a2) K =
    cond (decide (a0 ≥ a1)) (K (.one (.v (.bool (decide (a0 ≤ a2)))), [])) (K (.one (.v (.bool false)), [])) := by kernel_rfl
theorem F33_ev {β : Type} (k : Nat) (a0 a1 a2 : Int) (K : A × List (List Leaf) → Option β) : evalF (F33_E k) Try.f33 (F33_a a0 a1 a2) K = (F33 k a0 a1 a2).bind fun r => K (F33_r r) := by
  rw [F33_st, F33]
  simp only [F33_r, bind_cond, Option.bind_assoc, Option.bind_some, Option.bind_none, Option.bind_fun_some]
theorem F33_con (k : Nat) (a0 a1 a2 : Int) : Contract Try.prog 33 (F33_a a0 a1 a2) ⟨F33 k a0 a1 a2, F33_r⟩ := con_of (envOk .none _ _ _ _) mixed Try.func33 rfl rfl (F33_ev k a0 a1 a2 some)
def F33_sh : List AK := [.one (.l (.int .i64)), .one (.l (.int .i64)), .one (.l (.int .i64))]
def F33_p (k : Nat) : List Arg → Option CR := cle F33_sh fun x => ⟨F33 k x.1 x.2.1 x.2.2.1, F33_r⟩
theorem F33_q (k : Nat) : ∀ xs cr, F33_p k xs = some cr → Contract Try.prog 33 xs cr := cle_ok fun x => F33_con k _ _ _
theorem F33_f : FnOk Try.prog 33 := .of (by kernel_rfl)
/-! 31: loop.example/netstack/impl.portOk -/
def F31_t (k : Nat) : Tab := entT 33 (F33_p k) <| noTab
abbrev F31_E (k : Nat) : Env := env (F31_t k) noHint .own [] k
abbrev F31_a (a0 : Int) : List Arg := [.one (.l (.v (.int .i64 a0)))]
def F31_r (r : Bool) : A × List (List Leaf) := (.one (.v (.bool r)), [])
def F31 (k : Nat) (a0 : Int) : Option (Bool) := (F33 k a0 1 255).bind fun b1 => some b1
theorem F31_st {β : Type} (k : Nat) (a0 : Int) (K : A × List (List Leaf) → Option β) : evalF (F31_E k) Try.f31 (F31_a a0) K =
    (F33 k a0 1 255).bind fun b1 => K (.one (.v (.bool b1)), []) := by kernel_rfl
theorem F31_ev {β : Type} (k : Nat) (a0 : Int) (K : A × List (List Leaf) → Option β) : evalF (F31_E k) Try.f31 (F31_a a0) K = (F31 k a0).bind fun r => K (F31_r r) := by
  rw [F31_st, F31]
  simp only [F31_r, bind_cond, Option.bind_assoc, Option.bind_some, Option.bind_none, Option.bind_fun_some]
theorem F31_tOk (k : Nat) : TabFn Try.prog (F31_t k) := .ent (F33_q k) F33_f (.none)
theorem F31_con (k : Nat) (a0 : Int) : Contract Try.prog 31 (F31_a a0) ⟨F31 k a0, F31_r⟩ := con_of (envOk (F31_tOk k) _ _ _ _) mixed Try.func31 rfl rfl (F31_ev k a0 some)
def F31_sh : List AK := [.one (.l (.int .i64))]
def F31_p (k : Nat) : List Arg → Option CR := cle F31_sh fun x => ⟨F31 k x.1, F31_r⟩
theorem F31_q (k : Nat) : ∀ xs cr, F31_p k xs = some cr → Contract Try.prog 31 xs cr := cle_ok fun x => F31_con k _
theorem F31_f : FnOk Try.prog 31 := .of (by kernel_rfl)
/-! 32: loop.example/netstack/impl.word -/
def F32_t (k : Nat) : Tab := entT 33 (F33_p k) <| noTab
abbrev F32_E (k : Nat) : Env := env (F32_t k) noHint .own [] k
abbrev F32_a (a0 : Int) : List Arg := [.one (.l (.v (.int .i64 a0)))]
def F32_r (r : Bool) : A × List (List Leaf) := (.one (.v (.bool r)), [])
def F32 (k : Nat) (a0 : Int) : Option (Bool) := (F33 k a0 0 65535).bind fun b1 => some b1
theorem F32_st {β : Type} (k : Nat) (a0 : Int) (K : A × List (List Leaf) → Option β) : evalF (F32_E k) Try.f32 (F32_a a0) K =
    (F33 k a0 0 65535).bind fun b1 => K (.one (.v (.bool b1)), []) := by kernel_rfl
theorem F32_ev {β : Type} (k : Nat) (a0 : Int) (K : A × List (List Leaf) → Option β) : evalF (F32_E k) Try.f32 (F32_a a0) K = (F32 k a0).bind fun r => K (F32_r r) := by
  rw [F32_st, F32]
  simp only [F32_r, bind_cond, Option.bind_assoc, Option.bind_some, Option.bind_none, Option.bind_fun_some]
theorem F32_tOk (k : Nat) : TabFn Try.prog (F32_t k) := .ent (F33_q k) F33_f (.none)
theorem F32_con (k : Nat) (a0 : Int) : Contract Try.prog 32 (F32_a a0) ⟨F32 k a0, F32_r⟩ := con_of (envOk (F32_tOk k) _ _ _ _) mixed Try.func32 rfl rfl (F32_ev k a0 some)
def F32_sh : List AK := [.one (.l (.int .i64))]
def F32_p (k : Nat) : List Arg → Option CR := cle F32_sh fun x => ⟨F32 k x.1, F32_r⟩
theorem F32_q (k : Nat) : ∀ xs cr, F32_p k xs = some cr → Contract Try.prog 32 xs cr := cle_ok fun x => F32_con k _
theorem F32_f : FnOk Try.prog 32 := .of (by kernel_rfl)
/-! 35: loop.example/netstack/impl.SegmentOk$1 -/
def F35_t (k : Nat) : Tab := entT 32 (F32_p k) <| noTab
abbrev F35_E (k : Nat) : Env := env (F35_t k) noHint .own [] k
abbrev F35_a (a0_0 a0_1 : Int) : List Arg := [.agg [.l (.v (.int .i64 a0_0)), .l (.v (.int .i64 a0_1))]]
def F35_r (r : Bool) : A × List (List Leaf) := (.one (.v (.bool r)), [])
def F35 (k : Nat) (a0_0 a0_1 : Int) : Option (Bool) := (F32 k a0_0).bind fun b1 => cond (!b1) (some true) ((F32 k a0_1).bind fun b2 => some (!b2))
theorem F35_st {β : Type} (k : Nat) (a0_0 a0_1 : Int) (K : A × List (List Leaf) → Option β) : evalF (F35_E k) Try.f35 (F35_a a0_0 a0_1) K =
    (F32 k a0_0).bind fun b1 => cond (!b1) (K (.one (.v (.bool true)), [])) ((F32 k a0_1).bind fun b2 => K (.one (.v (.bool (!b2))), [])) := by kernel_rfl
theorem F35_ev {β : Type} (k : Nat) (a0_0 a0_1 : Int) (K : A × List (List Leaf) → Option β) : evalF (F35_E k) Try.f35 (F35_a a0_0 a0_1) K = (F35 k a0_0 a0_1).bind fun r => K (F35_r r) := by
  rw [F35_st, F35]
  simp only [F35_r, bind_cond, Option.bind_assoc, Option.bind_some, Option.bind_none, Option.bind_fun_some]
theorem F35_tOk (k : Nat) : TabFn Try.prog (F35_t k) := .ent (F32_q k) F32_f (.none)
theorem F35_con (k : Nat) (a0_0 a0_1 : Int) : Contract Try.prog 35 (F35_a a0_0 a0_1) ⟨F35 k a0_0 a0_1, F35_r⟩ := con_of (envOk (F35_tOk k) _ _ _ _) mixed Try.func35 rfl rfl (F35_ev k a0_0 a0_1 some)
def F35_sh : List AK := [.agg [.l (.int .i64), .l (.int .i64)]]
def F35_p (k : Nat) : List Arg → Option CR := cle F35_sh fun x => ⟨F35 k x.1.1 x.1.2.1, F35_r⟩
theorem F35_q (k : Nat) : ∀ xs cr, F35_p k xs = some cr → Contract Try.prog 35 xs cr := cle_ok fun x => F35_con k _ _
theorem F35_f : FnOk Try.prog 35 := .of (by kernel_rfl)
/-! 57: slices.IndexFunc[[]loop.example/netstack/impl.Range,loop.example/netstack/impl.Range] -/
def F57_h : Nat → Hint
  | 0 => ⟨[(0, .plain), (1, .plain), (7, .plain), (8, .plain)], []⟩
  | _ => ⟨[], []⟩
def F57_t (k : Nat) : Tab := entT 35 (F35_p k) <| noTab
abbrev F57_E (k : Nat) : Env := env (F57_t k) F57_h .own [] k
abbrev F57_a (a0 : List (den rng)) : List Arg := [.one (.l (.s .ro rng a0)), .one (.fn 35 [])]
def F57_r (r : Int) : A × List (List Leaf) := (.one (.v (.int .i64 r)), [])
def F57_s0 (a0 : List (den rng)) (x8_0 : Int) : St := ⟨(.one (.s .ro rng a0)) :: (.one (.fn 35 [])) :: dz 5 ((.one (.v (.int .i64 ((a0.length : Nat) : Int)))) :: (.one (.v (.int .i64 x8_0))) :: dz 10 []), []⟩
def F57_l0_T {β : Type} (k : Nat) (a0 : List (den rng)) (NX : Int → Option β) (RET : Int → Option β) (x8_0 : Int) : Option β := cond (decide (x8_0 < ((a0.length : Nat) : Int))) (cond (decide (0 ≤ x8_0)) (cond (decide (x8_0 < ((a0.length : Nat) : Int))) ((F35 k ((atI a0 x8_0).1) ((atI a0 x8_0).2)).bind fun b1 => cond b1 (RET x8_0) (NX (IntKind.i64.wrap (x8_0 + 1)))) none) none) (RET (-1))
def F57_l0 (k : Nat) (a0 : List (den rng)) : Nat → Int → Option (Int)
  | 0, _ => none
  | n + 1, x8_0 => F57_l0_T k a0 (fun x8_0 => F57_l0 k a0 n x8_0) some x8_0
theorem F57_l0_rd {β : Type} (k n : Nat) (a0 : List (den rng)) (x8_0 : Int) (K : A × List (List Leaf) → Option β) :
    loopG (F57_E k) Try.f57 [1, 0, 1, 0] 0 (kontAt (F57_E k) [1, 0, 1, 0] (bodyOf Try.f57) 0 (endC (F57_E k) Try.f57 (F57_a a0) K)) (n + 1) (F57_s0 a0 x8_0) =
    F57_l0_T k a0 (fun x8_0 => loopG (F57_E k) Try.f57 [1, 0, 1, 0] 0 (kontAt (F57_E k) [1, 0, 1, 0] (bodyOf Try.f57) 0 (endC (F57_E k) Try.f57 (F57_a a0) K)) n (F57_s0 a0 x8_0)) (fun r => K (F57_r r)) x8_0 := by kernel_rfl
theorem F57_l0_lp {β : Type} (k : Nat) (a0 : List (den rng)) (K : A × List (List Leaf) → Option β) (n : Nat) : ∀ (x8_0 : Int), loopG (F57_E k) Try.f57 [1, 0, 1, 0] 0 (kontAt (F57_E k) [1, 0, 1, 0] (bodyOf Try.f57) 0 (endC (F57_E k) Try.f57 (F57_a a0) K)) n (F57_s0 a0 x8_0) =
    (F57_l0 k a0 n x8_0).bind fun r => K (F57_r r) := by
  induction n with
  | zero => intros; rfl
  | succ n ih =>
    intros
    rw [F57_l0_rd, F57_l0]
    simp only [F57_l0_T, bind_cond, Option.bind_assoc, Option.bind_some, Option.bind_none, Option.bind_fun_some, ih]
def F57_T {β : Type} (k : Nat) (a0 : List (den rng)) (LP0 : Int → Option β) : Option β := LP0 0
def F57 (k : Nat) (a0 : List (den rng)) : Option (Int) := F57_T k a0 (fun x8_0 => F57_l0 k a0 k x8_0)
theorem F57_st {β : Type} (k : Nat) (a0 : List (den rng)) (K : A × List (List Leaf) → Option β) : evalF (F57_E k) Try.f57 (F57_a a0) K =
    F57_T k a0 (fun x8_0 => loopG (F57_E k) Try.f57 [1, 0, 1, 0] 0 (kontAt (F57_E k) [1, 0, 1, 0] (bodyOf Try.f57) 0 (endC (F57_E k) Try.f57 (F57_a a0) K)) k (F57_s0 a0 x8_0)) := by kernel_rfl
theorem F57_ev {β : Type} (k : Nat) (a0 : List (den rng)) (K : A × List (List Leaf) → Option β) : evalF (F57_E k) Try.f57 (F57_a a0) K = (F57 k a0).bind fun r => K (F57_r r) := by
  rw [F57_st, F57]
  simp only [F57_T, bind_cond, Option.bind_assoc, Option.bind_some, Option.bind_none, Option.bind_fun_some, F57_l0_lp]
theorem F57_tOk (k : Nat) : TabFn Try.prog (F57_t k) := .ent (F35_q k) F35_f (.none)
theorem F57_con (k : Nat) (a0 : List (den rng)) : Contract Try.prog 57 (F57_a a0) ⟨F57 k a0, F57_r⟩ := con_of (envOk (F57_tOk k) _ _ _ _) mixed Try.func57 rfl rfl (F57_ev k a0 some)
def F57_sh : List AK := [.one (.l (.sl .ro rng)), .one (.fn 35)]
def F57_p (k : Nat) : List Arg → Option CR := cle F57_sh fun x => ⟨F57 k x.1, F57_r⟩
theorem F57_q (k : Nat) : ∀ xs cr, F57_p k xs = some cr → Contract Try.prog 57 xs cr := cle_ok fun x => F57_con k _
theorem F57_f : FnOk Try.prog 57 := .of (by kernel_rfl)
/-! 34: slices.ContainsFunc[[]loop.example/netstack/impl.Range,loop.example/netstack/impl.Range] -/
def F34_t (k : Nat) : Tab := entT 57 (F57_p k) <| noTab
abbrev F34_E (k : Nat) : Env := env (F34_t k) noHint .own [] k
abbrev F34_a (a0 : List (den rng)) : List Arg := [.one (.l (.s .ro rng a0)), .one (.fn 35 [])]
def F34_r (r : Bool) : A × List (List Leaf) := (.one (.v (.bool r)), [])
def F34 (k : Nat) (a0 : List (den rng)) : Option (Bool) := (F57 k a0).bind fun b1 => some (decide (b1 ≥ 0))
theorem F34_st {β : Type} (k : Nat) (a0 : List (den rng)) (K : A × List (List Leaf) → Option β) : evalF (F34_E k) Try.f34 (F34_a a0) K =
    (F57 k a0).bind fun b1 => K (.one (.v (.bool (decide (b1 ≥ 0)))), []) := by kernel_rfl
theorem F34_ev {β : Type} (k : Nat) (a0 : List (den rng)) (K : A × List (List Leaf) → Option β) : evalF (F34_E k) Try.f34 (F34_a a0) K = (F34 k a0).bind fun r => K (F34_r r) := by
  rw [F34_st, F34]
  simp only [F34_r, bind_cond, Option.bind_assoc, Option.bind_some, Option.bind_none, Option.bind_fun_some]
theorem F34_tOk (k : Nat) : TabFn Try.prog (F34_t k) := .ent (F57_q k) F57_f (.none)
theorem F34_con (k : Nat) (a0 : List (den rng)) : Contract Try.prog 34 (F34_a a0) ⟨F34 k a0, F34_r⟩ := con_of (envOk (F34_tOk k) _ _ _ _) mixed Try.func34 rfl rfl (F34_ev k a0 some)
def F34_sh : List AK := [.one (.l (.sl .ro rng)), .one (.fn 35)]
def F34_p (k : Nat) : List Arg → Option CR := cle F34_sh fun x => ⟨F34 k x.1, F34_r⟩
theorem F34_q (k : Nat) : ∀ xs cr, F34_p k xs = some cr → Contract Try.prog 34 xs cr := cle_ok fun x => F34_con k _
theorem F34_f : FnOk Try.prog 34 := .of (by kernel_rfl)
/-! 10: loop.example/netstack/impl.SegmentOk -/
def F10_t (k : Nat) : Tab := entT 31 (F31_p k) <| entT 32 (F32_p k) <| entT 33 (F33_p k) <| entT 34 (F34_p k) <| noTab
abbrev F10_E (k : Nat) : Env := env (F10_t k) noHint .own [] k
abbrev F10_a (a0_0 a0_1 a0_2 a0_3 a0_4 : Int) (a0_5 a0_6 a0_7 a0_8 : Bool) (a0_9 : List (den rng)) (a0_10 : List (den (.int .u8))) : List Arg := [.agg [.l (.v (.int .i64 a0_0)), .l (.v (.int .i64 a0_1)), .l (.v (.int .i64 a0_2)), .l (.v (.int .i64 a0_3)), .l (.v (.int .i64 a0_4)), .l (.v (.bool a0_5)), .l (.v (.bool a0_6)), .l (.v (.bool a0_7)), .l (.v (.bool a0_8)), .l (.s .ro rng a0_9), .l (.s .ro (.int .u8) a0_10)]]
def F10_r (r : Bool) : A × List (List Leaf) := (.one (.v (.bool r)), [])
def F10_T {β : Type} (k : Nat) (a0_0 a0_1 a0_2 a0_3 a0_4 : Int) (a0_5 a0_6 a0_7 a0_8 : Bool) (a0_9 : List (den rng)) (a0_10 : List (den (.int .u8))) (RET : Bool → Option β) : Option β := (F31 k a0_0).bind fun b1 => cond (!b1) (RET false) ((F31 k a0_1).bind fun b2 => cond (!b2) (RET false) ((F32 k a0_2).bind fun b3 => cond (!b3) (RET false) ((F32 k a0_3).bind fun b4 => cond (!b4) (RET false) ((F33 k a0_4 0 255).bind fun b5 => cond (!b5) (RET false) (cond (decide (((a0_9.length : Nat) : Int) > 2)) (RET false) (cond (decide (((a0_10.length : Nat) : Int) > 12)) (RET false) ((F34 k a0_9).bind fun b6 => cond b6 (RET false) (cond (!a0_6) (cond (a0_3 != 0) (RET false) (cond (a0_4 != 0) (RET false) (cond (decide (((a0_9.length : Nat) : Int) > 0)) (RET false) (cond (!a0_8) (RET true) (cond (!a0_5) (cond (!a0_7) (RET (((a0_10.length : Nat) : Int) == 0)) (RET false)) (RET false)))))) (cond (!a0_8) (RET true) (cond (!a0_5) (cond (!a0_7) (RET (((a0_10.length : Nat) : Int) == 0)) (RET false)) (RET false)))))))))))
def F10 (k : Nat) (a0_0 a0_1 a0_2 a0_3 a0_4 : Int) (a0_5 a0_6 a0_7 a0_8 : Bool) (a0_9 : List (den rng)) (a0_10 : List (den (.int .u8))) : Option (Bool) := F10_T k a0_0 a0_1 a0_2 a0_3 a0_4 a0_5 a0_6 a0_7 a0_8 a0_9 a0_10 some
theorem F10_st {β : Type} (k : Nat) (a0_0 a0_1 a0_2 a0_3 a0_4 : Int) (a0_5 a0_6 a0_7 a0_8 : Bool) (a0_9 : List (den rng)) (a0_10 : List (den (.int .u8))) (K : A × List (List Leaf) → Option β) : evalF (F10_E k) Try.f10 (F10_a a0_0 a0_1 a0_2 a0_3 a0_4 a0_5 a0_6 a0_7 a0_8 a0_9 a0_10) K =
    F10_T k a0_0 a0_1 a0_2 a0_3 a0_4 a0_5 a0_6 a0_7 a0_8 a0_9 a0_10 (fun r => K (F10_r r)) := by kernel_rfl
theorem F10_ev {β : Type} (k : Nat) (a0_0 a0_1 a0_2 a0_3 a0_4 : Int) (a0_5 a0_6 a0_7 a0_8 : Bool) (a0_9 : List (den rng)) (a0_10 : List (den (.int .u8))) (K : A × List (List Leaf) → Option β) : evalF (F10_E k) Try.f10 (F10_a a0_0 a0_1 a0_2 a0_3 a0_4 a0_5 a0_6 a0_7 a0_8 a0_9 a0_10) K = (F10 k a0_0 a0_1 a0_2 a0_3 a0_4 a0_5 a0_6 a0_7 a0_8 a0_9 a0_10).bind fun r => K (F10_r r) := by
  rw [F10_st, F10]
  simp only [F10_T, bind_cond, Option.bind_assoc, Option.bind_some, Option.bind_none, Option.bind_fun_some]
theorem F10_tOk (k : Nat) : TabFn Try.prog (F10_t k) := .ent (F31_q k) F31_f (.ent (F32_q k) F32_f (.ent (F33_q k) F33_f (.ent (F34_q k) F34_f (.none))))
theorem F10_con (k : Nat) (a0_0 a0_1 a0_2 a0_3 a0_4 : Int) (a0_5 a0_6 a0_7 a0_8 : Bool) (a0_9 : List (den rng)) (a0_10 : List (den (.int .u8))) : Contract Try.prog 10 (F10_a a0_0 a0_1 a0_2 a0_3 a0_4 a0_5 a0_6 a0_7 a0_8 a0_9 a0_10) ⟨F10 k a0_0 a0_1 a0_2 a0_3 a0_4 a0_5 a0_6 a0_7 a0_8 a0_9 a0_10, F10_r⟩ := con_of (envOk (F10_tOk k) _ _ _ _) mixed Try.func10 rfl rfl (F10_ev k a0_0 a0_1 a0_2 a0_3 a0_4 a0_5 a0_6 a0_7 a0_8 a0_9 a0_10 some)
def F10_sh : List AK := [.agg [.l (.int .i64), .l (.int .i64), .l (.int .i64), .l (.int .i64), .l (.int .i64), .l (.bool), .l (.bool), .l (.bool), .l (.bool), .l (.sl .ro rng), .l (.sl .ro (.int .u8))]]
def F10_p (k : Nat) : List Arg → Option CR := cle F10_sh fun x => ⟨F10 k x.1.1 x.1.2.1 x.1.2.2.1 x.1.2.2.2.1 x.1.2.2.2.2.1 x.1.2.2.2.2.2.1 x.1.2.2.2.2.2.2.1 x.1.2.2.2.2.2.2.2.1 x.1.2.2.2.2.2.2.2.2.1 x.1.2.2.2.2.2.2.2.2.2.1 x.1.2.2.2.2.2.2.2.2.2.2.1, F10_r⟩
theorem F10_q (k : Nat) : ∀ xs cr, F10_p k xs = some cr → Contract Try.prog 10 xs cr := cle_ok fun x => F10_con k _ _ _ _ _ _ _ _ _ _ _
theorem F10_f : FnOk Try.prog 10 := .of (by kernel_rfl)
/-! 36: slices.Equal[[]loop.example/netstack/impl.Range,loop.example/netstack/impl.Range] -/
def F36_h : Nat → Hint
  | 0 => ⟨[(0, .plain), (1, .plain), (12, .plain), (13, .plain)], []⟩
  | _ => ⟨[], []⟩
abbrev F36_E (k : Nat) : Env := env noTab F36_h .own [] k
abbrev F36_a (a0 a1 : List (den rng)) : List Arg := [.one (.l (.s .ro rng a0)), .one (.l (.s .ro rng a1))]
def F36_r (r : Bool) : A × List (List Leaf) := (.one (.v (.bool r)), [])
def F36_s0 (a0 a1 : List (den rng)) (x13_0 : Int) : St := ⟨(.one (.s .ro rng a0)) :: (.one (.s .ro rng a1)) :: dz 10 ((.one (.v (.int .i64 ((a0.length : Nat) : Int)))) :: (.one (.v (.int .i64 x13_0))) :: dz 12 []), []⟩
def F36_l0_T {β : Type} (k : Nat) (a0 a1 : List (den rng)) (NX : Int → Option β) (RET : Bool → Option β) (x13_0 : Int) : Option β := cond (decide (x13_0 < ((a0.length : Nat) : Int))) (cond (decide (0 ≤ x13_0)) (cond (decide (x13_0 < ((a0.length : Nat) : Int))) (cond (decide (0 ≤ x13_0)) (cond (decide (x13_0 < ((a1.length : Nat) : Int))) (cond (!(eqD rng (atI a0 x13_0) (atI a1 x13_0))) (RET false) (NX (IntKind.i64.wrap (x13_0 + 1)))) none) none) none) none) (RET true)
def F36_l0 (k : Nat) (a0 a1 : List (den rng)) : Nat → Int → Option (Bool)
  | 0, _ => none
  | n + 1, x13_0 => F36_l0_T k a0 a1 (fun x13_0 => F36_l0 k a0 a1 n x13_0) some x13_0
theorem F36_l0_rd {β : Type} (k n : Nat) (a0 a1 : List (den rng)) (x13_0 : Int) (K : A × List (List Leaf) → Option β) :
    loopG (F36_E k) Try.f36 [1, 1, 0, 1, 0] 0 (kontAt (F36_E k) [1, 1, 0, 1, 0] (bodyOf Try.f36) 0 (endC (F36_E k) Try.f36 (F36_a a0 a1) K)) (n + 1) (F36_s0 a0 a1 x13_0) =
    F36_l0_T k a0 a1 (fun x13_0 => loopG (F36_E k) Try.f36 [1, 1, 0, 1, 0] 0 (kontAt (F36_E k) [1, 1, 0, 1, 0] (bodyOf Try.f36) 0 (endC (F36_E k) Try.f36 (F36_a a0 a1) K)) n (F36_s0 a0 a1 x13_0)) (fun r => K (F36_r r)) x13_0 := by kernel_rfl
theorem F36_l0_lp {β : Type} (k : Nat) (a0 a1 : List (den rng)) (K : A × List (List Leaf) → Option β) (n : Nat) : ∀ (x13_0 : Int), loopG (F36_E k) Try.f36 [1, 1, 0, 1, 0] 0 (kontAt (F36_E k) [1, 1, 0, 1, 0] (bodyOf Try.f36) 0 (endC (F36_E k) Try.f36 (F36_a a0 a1) K)) n (F36_s0 a0 a1 x13_0) =
    (F36_l0 k a0 a1 n x13_0).bind fun r => K (F36_r r) := by
  induction n with
  | zero => intros; rfl
  | succ n ih =>
    intros
    rw [F36_l0_rd, F36_l0]
    simp only [F36_l0_T, bind_cond, Option.bind_assoc, Option.bind_some, Option.bind_none, Option.bind_fun_some, ih]
def F36_T {β : Type} (k : Nat) (a0 a1 : List (den rng)) (LP0 : Int → Option β) (RET : Bool → Option β) : Option β := cond (((a0.length : Nat) : Int) != ((a1.length : Nat) : Int)) (RET false) (LP0 0)
def F36 (k : Nat) (a0 a1 : List (den rng)) : Option (Bool) := F36_T k a0 a1 (fun x13_0 => F36_l0 k a0 a1 k x13_0) some
theorem F36_st {β : Type} (k : Nat) (a0 a1 : List (den rng)) (K : A × List (List Leaf) → Option β) : evalF (F36_E k) Try.f36 (F36_a a0 a1) K =
    F36_T k a0 a1 (fun x13_0 => loopG (F36_E k) Try.f36 [1, 1, 0, 1, 0] 0 (kontAt (F36_E k) [1, 1, 0, 1, 0] (bodyOf Try.f36) 0 (endC (F36_E k) Try.f36 (F36_a a0 a1) K)) k (F36_s0 a0 a1 x13_0)) (fun r => K (F36_r r)) := by kernel_rfl
theorem F36_ev {β : Type} (k : Nat) (a0 a1 : List (den rng)) (K : A × List (List Leaf) → Option β) : evalF (F36_E k) Try.f36 (F36_a a0 a1) K = (F36 k a0 a1).bind fun r => K (F36_r r) := by
  rw [F36_st, F36]
  simp only [F36_T, bind_cond, Option.bind_assoc, Option.bind_some, Option.bind_none, Option.bind_fun_some, F36_l0_lp]
theorem F36_con (k : Nat) (a0 a1 : List (den rng)) : Contract Try.prog 36 (F36_a a0 a1) ⟨F36 k a0 a1, F36_r⟩ := con_of (envOk .none _ _ _ _) mixed Try.func36 rfl rfl (F36_ev k a0 a1 some)
def F36_sh : List AK := [.one (.l (.sl .ro rng)), .one (.l (.sl .ro rng))]
def F36_p (k : Nat) : List Arg → Option CR := cle F36_sh fun x => ⟨F36 k x.1 x.2.1, F36_r⟩
theorem F36_q (k : Nat) : ∀ xs cr, F36_p k xs = some cr → Contract Try.prog 36 xs cr := cle_ok fun x => F36_con k _ _
theorem F36_f : FnOk Try.prog 36 := .of (by kernel_rfl)
/-! 30: loop.example/netstack/impl.bit -/
abbrev F30_E (k : Nat) : Env := env noTab noHint .own [] k
abbrev F30_a (a0 : Bool) (a1 : Int) : List Arg := [.one (.l (.v (.bool a0))), .one (.l (.v (.int .i64 a1)))]
def F30_r (r : Int) : A × List (List Leaf) := (.one (.v (.int .i64 r)), [])
def F30 (k : Nat) (a0 : Bool) (a1 : Int) : Option (Int) := cond a0 (some a1) (some 0)
theorem F30_st {β : Type} (k : Nat) (a0 : Bool) (a1 : Int) (K : A × List (List Leaf) → Option β) : evalF (F30_E k) Try.f30 (F30_a a0 a1) K =
    cond a0 (K (.one (.v (.int .i64 a1)), [])) (K (.one (.v (.int .i64 0)), [])) := by kernel_rfl
theorem F30_ev {β : Type} (k : Nat) (a0 : Bool) (a1 : Int) (K : A × List (List Leaf) → Option β) : evalF (F30_E k) Try.f30 (F30_a a0 a1) K = (F30 k a0 a1).bind fun r => K (F30_r r) := by
  rw [F30_st, F30]
  simp only [F30_r, bind_cond, Option.bind_assoc, Option.bind_some, Option.bind_none, Option.bind_fun_some]
theorem F30_con (k : Nat) (a0 : Bool) (a1 : Int) : Contract Try.prog 30 (F30_a a0 a1) ⟨F30 k a0 a1, F30_r⟩ := con_of (envOk .none _ _ _ _) mixed Try.func30 rfl rfl (F30_ev k a0 a1 some)
def F30_sh : List AK := [.one (.l (.bool)), .one (.l (.int .i64))]
def F30_p (k : Nat) : List Arg → Option CR := cle F30_sh fun x => ⟨F30 k x.1 x.2.1, F30_r⟩
theorem F30_q (k : Nat) : ∀ xs cr, F30_p k xs = some cr → Contract Try.prog 30 xs cr := cle_ok fun x => F30_con k _ _
theorem F30_f : FnOk Try.prog 30 := .of (by kernel_rfl)
/-! 9: loop.example/netstack/impl.SegmentLong -/
def F9_t (k : Nat) : Tab := entT 30 (F30_p k) <| noTab
abbrev F9_E (k : Nat) : Env := env (F9_t k) noHint .own [] k
abbrev F9_a (a0_0 a0_1 a0_2 a0_3 a0_4 : Int) (a0_5 a0_6 a0_7 a0_8 : Bool) (a0_9 : List (den rng)) (a0_10 : List (den (.int .u8))) : List Arg := [.agg [.l (.v (.int .i64 a0_0)), .l (.v (.int .i64 a0_1)), .l (.v (.int .i64 a0_2)), .l (.v (.int .i64 a0_3)), .l (.v (.int .i64 a0_4)), .l (.v (.bool a0_5)), .l (.v (.bool a0_6)), .l (.v (.bool a0_7)), .l (.v (.bool a0_8)), .l (.s .ro rng a0_9), .l (.s .ro (.int .u8) a0_10)]]
def F9_r (r : Int) : A × List (List Leaf) := (.one (.v (.int .i64 r)), [])
def F9_T {β : Type} (k : Nat) (a0_0 a0_1 a0_2 a0_3 a0_4 : Int) (a0_5 a0_6 a0_7 a0_8 : Bool) (a0_9 : List (den rng)) (a0_10 : List (den (.int .u8))) (RET : Int → Option β) : Option β := (F30 k a0_5 1).bind fun b1 => (F30 k a0_7 1).bind fun b2 => RET (IntKind.i64.wrap ((IntKind.i64.wrap (((a0_10.length : Nat) : Int) + b1)) + b2))
def F9 (k : Nat) (a0_0 a0_1 a0_2 a0_3 a0_4 : Int) (a0_5 a0_6 a0_7 a0_8 : Bool) (a0_9 : List (den rng)) (a0_10 : List (den (.int .u8))) : Option (Int) := F9_T k a0_0 a0_1 a0_2 a0_3 a0_4 a0_5 a0_6 a0_7 a0_8 a0_9 a0_10 some
theorem F9_st {β : Type} (k : Nat) (a0_0 a0_1 a0_2 a0_3 a0_4 : Int) (a0_5 a0_6 a0_7 a0_8 : Bool) (a0_9 : List (den rng)) (a0_10 : List (den (.int .u8))) (K : A × List (List Leaf) → Option β) : evalF (F9_E k) Try.f9 (F9_a a0_0 a0_1 a0_2 a0_3 a0_4 a0_5 a0_6 a0_7 a0_8 a0_9 a0_10) K =
    F9_T k a0_0 a0_1 a0_2 a0_3 a0_4 a0_5 a0_6 a0_7 a0_8 a0_9 a0_10 (fun r => K (F9_r r)) := by kernel_rfl
theorem F9_ev {β : Type} (k : Nat) (a0_0 a0_1 a0_2 a0_3 a0_4 : Int) (a0_5 a0_6 a0_7 a0_8 : Bool) (a0_9 : List (den rng)) (a0_10 : List (den (.int .u8))) (K : A × List (List Leaf) → Option β) : evalF (F9_E k) Try.f9 (F9_a a0_0 a0_1 a0_2 a0_3 a0_4 a0_5 a0_6 a0_7 a0_8 a0_9 a0_10) K = (F9 k a0_0 a0_1 a0_2 a0_3 a0_4 a0_5 a0_6 a0_7 a0_8 a0_9 a0_10).bind fun r => K (F9_r r) := by
  rw [F9_st, F9]
  simp only [F9_T, bind_cond, Option.bind_assoc, Option.bind_some, Option.bind_none, Option.bind_fun_some]
theorem F9_tOk (k : Nat) : TabFn Try.prog (F9_t k) := .ent (F30_q k) F30_f (.none)
theorem F9_con (k : Nat) (a0_0 a0_1 a0_2 a0_3 a0_4 : Int) (a0_5 a0_6 a0_7 a0_8 : Bool) (a0_9 : List (den rng)) (a0_10 : List (den (.int .u8))) : Contract Try.prog 9 (F9_a a0_0 a0_1 a0_2 a0_3 a0_4 a0_5 a0_6 a0_7 a0_8 a0_9 a0_10) ⟨F9 k a0_0 a0_1 a0_2 a0_3 a0_4 a0_5 a0_6 a0_7 a0_8 a0_9 a0_10, F9_r⟩ := con_of (envOk (F9_tOk k) _ _ _ _) mixed Try.func9 rfl rfl (F9_ev k a0_0 a0_1 a0_2 a0_3 a0_4 a0_5 a0_6 a0_7 a0_8 a0_9 a0_10 some)
def F9_sh : List AK := [.agg [.l (.int .i64), .l (.int .i64), .l (.int .i64), .l (.int .i64), .l (.int .i64), .l (.bool), .l (.bool), .l (.bool), .l (.bool), .l (.sl .ro rng), .l (.sl .ro (.int .u8))]]
def F9_p (k : Nat) : List Arg → Option CR := cle F9_sh fun x => ⟨F9 k x.1.1 x.1.2.1 x.1.2.2.1 x.1.2.2.2.1 x.1.2.2.2.2.1 x.1.2.2.2.2.2.1 x.1.2.2.2.2.2.2.1 x.1.2.2.2.2.2.2.2.1 x.1.2.2.2.2.2.2.2.2.1 x.1.2.2.2.2.2.2.2.2.2.1 x.1.2.2.2.2.2.2.2.2.2.2.1, F9_r⟩
theorem F9_q (k : Nat) : ∀ xs cr, F9_p k xs = some cr → Contract Try.prog 9 xs cr := cle_ok fun x => F9_con k _ _ _ _ _ _ _ _ _ _ _
theorem F9_f : FnOk Try.prog 9 := .of (by kernel_rfl)
/-! 37: loop.example/netstack/impl.SeqOf -/
abbrev F37_E (k : Nat) : Env := env noTab noHint .own [] k
abbrev F37_a (a0 : Int) : List Arg := [.one (.l (.v (.int .i64 a0)))]
def F37_r (r : Int) : A × List (List Leaf) := (.one (.v (.int .i64 r)), [])
def F37 (k : Nat) (a0 : Int) : Option (Int) := some ((IntKind.i64.wrap ((a0.tmod 65536) + 65536)).tmod 65536)
theorem F37_st {β : Type} (k : Nat) (a0 : Int) (K : A × List (List Leaf) → Option β) : evalF (F37_E k) Try.f37 (F37_a a0) K =
    K (.one (.v (.int .i64 ((IntKind.i64.wrap ((a0.tmod 65536) + 65536)).tmod 65536))), []) := by kernel_rfl
theorem F37_ev {β : Type} (k : Nat) (a0 : Int) (K : A × List (List Leaf) → Option β) : evalF (F37_E k) Try.f37 (F37_a a0) K = (F37 k a0).bind fun r => K (F37_r r) := by
  rw [F37_st, F37]
  simp only [F37_r, bind_cond, Option.bind_assoc, Option.bind_some, Option.bind_none, Option.bind_fun_some]
theorem F37_con (k : Nat) (a0 : Int) : Contract Try.prog 37 (F37_a a0) ⟨F37 k a0, F37_r⟩ := con_of (envOk .none _ _ _ _) mixed Try.func37 rfl rfl (F37_ev k a0 some)
def F37_sh : List AK := [.one (.l (.int .i64))]
def F37_p (k : Nat) : List Arg → Option CR := cle F37_sh fun x => ⟨F37 k x.1, F37_r⟩
theorem F37_q (k : Nat) : ∀ xs cr, F37_p k xs = some cr → Contract Try.prog 37 xs cr := cle_ok fun x => F37_con k _
theorem F37_f : FnOk Try.prog 37 := .of (by kernel_rfl)
/-! 66: slices.Clip[[]loop.example/netstack/impl.Range,loop.example/netstack/impl.Range] -/
abbrev F66_E (k : Nat) : Env := env noTab noHint .own [] k
abbrev F66_a (a0 : List (den rng)) : List Arg := [.one (.l (.s .own rng a0))]
def F66_r (r : List (den rng)) : A × List (List Leaf) := (.one (.s .own rng r), [])
def F66_T {β : Type} (k : Nat) (a0 : List (den rng)) (RET : List (den rng) → Option β) : Option β := cond (decide (0 ≤ ((a0.length : Nat) : Int)) && decide (((a0.length : Nat) : Int) ≤ ((a0.length : Nat) : Int))) (cond (decide (((a0.length : Nat) : Int) = ((a0.length : Nat) : Int))) (RET ((a0.take (((a0.length : Nat) : Int).toNat)).drop 0)) none) none
def F66 (k : Nat) (a0 : List (den rng)) : Option (List (den rng)) := F66_T k a0 some
theorem F66_st {β : Type} (k : Nat) (a0 : List (den rng)) (K : A × List (List Leaf) → Option β) : evalF (F66_E k) Try.f66 (F66_a a0) K =
    F66_T k a0 (fun r => K (F66_r r)) := by kernel_rfl
theorem F66_ev {β : Type} (k : Nat) (a0 : List (den rng)) (K : A × List (List Leaf) → Option β) : evalF (F66_E k) Try.f66 (F66_a a0) K = (F66 k a0).bind fun r => K (F66_r r) := by
  rw [F66_st, F66]
  simp only [F66_T, bind_cond, Option.bind_assoc, Option.bind_some, Option.bind_none, Option.bind_fun_some]
theorem F66_con (k : Nat) (a0 : List (den rng)) : Contract Try.prog 66 (F66_a a0) ⟨F66 k a0, F66_r⟩ := con_of (envOk .none _ _ _ _) mixed Try.func66 rfl rfl (F66_ev k a0 some)
def F66_sh : List AK := [.one (.l (.sl .own rng))]
def F66_p (k : Nat) : List Arg → Option CR := cle F66_sh fun x => ⟨F66 k x.1, F66_r⟩
theorem F66_q (k : Nat) : ∀ xs cr, F66_p k xs = some cr → Contract Try.prog 66 xs cr := cle_ok fun x => F66_con k _
theorem F66_f : FnOk Try.prog 66 := .of (by kernel_rfl)
/-! 51: loop.example/netstack/impl.clone[loop.example/netstack/impl.Range] -/
def F51_t (k : Nat) : Tab := entT 66 (F66_p k) <| noTab
abbrev F51_E (k : Nat) : Env := env (F51_t k) noHint .own [] k
abbrev F51_a (a0 : List (den rng)) : List Arg := [.one (.l (.s .ro rng a0))]
def F51_r (r : List (den rng)) : A × List (List Leaf) := (.one (.s .own rng r), [])
def F51_T {β : Type} (k : Nat) (a0 : List (den rng)) (RET : List (den rng) → Option β) : Option β := cond (((a0.length : Nat) : Int) == 0) (RET []) (cond (decide ((([] : List (den rng)).length + a0.length) * 16 ≤ 140737488355328)) ((F66 k ([] ++ a0)).bind fun b1 => RET b1) none)
def F51 (k : Nat) (a0 : List (den rng)) : Option (List (den rng)) := F51_T k a0 some
theorem F51_st {β : Type} (k : Nat) (a0 : List (den rng)) (K : A × List (List Leaf) → Option β) : evalF (F51_E k) Try.f51 (F51_a a0) K =
    F51_T k a0 (fun r => K (F51_r r)) := by kernel_rfl
theorem F51_ev {β : Type} (k : Nat) (a0 : List (den rng)) (K : A × List (List Leaf) → Option β) : evalF (F51_E k) Try.f51 (F51_a a0) K = (F51 k a0).bind fun r => K (F51_r r) := by
  rw [F51_st, F51]
  simp only [F51_T, bind_cond, Option.bind_assoc, Option.bind_some, Option.bind_none, Option.bind_fun_some]
theorem F51_tOk (k : Nat) : TabFn Try.prog (F51_t k) := .ent (F66_q k) F66_f (.none)
theorem F51_con (k : Nat) (a0 : List (den rng)) : Contract Try.prog 51 (F51_a a0) ⟨F51 k a0, F51_r⟩ := con_of (envOk (F51_tOk k) _ _ _ _) mixed Try.func51 rfl rfl (F51_ev k a0 some)
def F51_sh : List AK := [.one (.l (.sl .ro rng))]
def F51_p (k : Nat) : List Arg → Option CR := cle F51_sh fun x => ⟨F51 k x.1, F51_r⟩
theorem F51_q (k : Nat) : ∀ xs cr, F51_p k xs = some cr → Contract Try.prog 51 xs cr := cle_ok fun x => F51_con k _
theorem F51_f : FnOk Try.prog 51 := .of (by kernel_rfl)
/-! 67: slices.Clip[[]byte,byte] -/
abbrev F67_E (k : Nat) : Env := env noTab noHint .own [] k
abbrev F67_a (a0 : List (den (.int .u8))) : List Arg := [.one (.l (.s .own (.int .u8) a0))]
def F67_r (r : List (den (.int .u8))) : A × List (List Leaf) := (.one (.s .own (.int .u8) r), [])
def F67_T {β : Type} (k : Nat) (a0 : List (den (.int .u8))) (RET : List (den (.int .u8)) → Option β) : Option β := cond (decide (0 ≤ ((a0.length : Nat) : Int)) && decide (((a0.length : Nat) : Int) ≤ ((a0.length : Nat) : Int))) (cond (decide (((a0.length : Nat) : Int) = ((a0.length : Nat) : Int))) (RET ((a0.take (((a0.length : Nat) : Int).toNat)).drop 0)) none) none
def F67 (k : Nat) (a0 : List (den (.int .u8))) : Option (List (den (.int .u8))) := F67_T k a0 some
theorem F67_st {β : Type} (k : Nat) (a0 : List (den (.int .u8))) (K : A × List (List Leaf) → Option β) : evalF (F67_E k) Try.f67 (F67_a a0) K =
    F67_T k a0 (fun r => K (F67_r r)) := by kernel_rfl
theorem F67_ev {β : Type} (k : Nat) (a0 : List (den (.int .u8))) (K : A × List (List Leaf) → Option β) : evalF (F67_E k) Try.f67 (F67_a a0) K = (F67 k a0).bind fun r => K (F67_r r) := by
  rw [F67_st, F67]
  simp only [F67_T, bind_cond, Option.bind_assoc, Option.bind_some, Option.bind_none, Option.bind_fun_some]
theorem F67_con (k : Nat) (a0 : List (den (.int .u8))) : Contract Try.prog 67 (F67_a a0) ⟨F67 k a0, F67_r⟩ := con_of (envOk .none _ _ _ _) mixed Try.func67 rfl rfl (F67_ev k a0 some)
def F67_sh : List AK := [.one (.l (.sl .own (.int .u8)))]
def F67_p (k : Nat) : List Arg → Option CR := cle F67_sh fun x => ⟨F67 k x.1, F67_r⟩
theorem F67_q (k : Nat) : ∀ xs cr, F67_p k xs = some cr → Contract Try.prog 67 xs cr := cle_ok fun x => F67_con k _
theorem F67_f : FnOk Try.prog 67 := .of (by kernel_rfl)
/-! 52: loop.example/netstack/impl.clone[byte] -/
def F52_t (k : Nat) : Tab := entT 67 (F67_p k) <| noTab
abbrev F52_E (k : Nat) : Env := env (F52_t k) noHint .own [] k
abbrev F52_a (a0 : List (den (.int .u8))) : List Arg := [.one (.l (.s .ro (.int .u8) a0))]
def F52_r (r : List (den (.int .u8))) : A × List (List Leaf) := (.one (.s .own (.int .u8) r), [])
def F52_T {β : Type} (k : Nat) (a0 : List (den (.int .u8))) (RET : List (den (.int .u8)) → Option β) : Option β := cond (((a0.length : Nat) : Int) == 0) (RET []) (cond (decide ((([] : List (den (.int .u8))).length + a0.length) * 1 ≤ 140737488355328)) ((F67 k ([] ++ a0)).bind fun b1 => RET b1) none)
def F52 (k : Nat) (a0 : List (den (.int .u8))) : Option (List (den (.int .u8))) := F52_T k a0 some
theorem F52_st {β : Type} (k : Nat) (a0 : List (den (.int .u8))) (K : A × List (List Leaf) → Option β) : evalF (F52_E k) Try.f52 (F52_a a0) K =
    F52_T k a0 (fun r => K (F52_r r)) := by kernel_rfl
theorem F52_ev {β : Type} (k : Nat) (a0 : List (den (.int .u8))) (K : A × List (List Leaf) → Option β) : evalF (F52_E k) Try.f52 (F52_a a0) K = (F52 k a0).bind fun r => K (F52_r r) := by
  rw [F52_st, F52]
  simp only [F52_T, bind_cond, Option.bind_assoc, Option.bind_some, Option.bind_none, Option.bind_fun_some]
theorem F52_tOk (k : Nat) : TabFn Try.prog (F52_t k) := .ent (F67_q k) F67_f (.none)
theorem F52_con (k : Nat) (a0 : List (den (.int .u8))) : Contract Try.prog 52 (F52_a a0) ⟨F52 k a0, F52_r⟩ := con_of (envOk (F52_tOk k) _ _ _ _) mixed Try.func52 rfl rfl (F52_ev k a0 some)
def F52_sh : List AK := [.one (.l (.sl .ro (.int .u8)))]
def F52_p (k : Nat) : List Arg → Option CR := cle F52_sh fun x => ⟨F52 k x.1, F52_r⟩
theorem F52_q (k : Nat) : ∀ xs cr, F52_p k xs = some cr → Contract Try.prog 52 xs cr := cle_ok fun x => F52_con k _
theorem F52_f : FnOk Try.prog 52 := .of (by kernel_rfl)
/-! 24: (loop.example/netstack/impl.Segment).copy -/
def F24_t (k : Nat) : Tab := entT 51 (F51_p k) <| entT 52 (F52_p k) <| noTab
abbrev F24_E (k : Nat) : Env := env (F24_t k) noHint .own [] k
abbrev F24_a (a0_0 a0_1 a0_2 a0_3 a0_4 : Int) (a0_5 a0_6 a0_7 a0_8 : Bool) (a0_9 : List (den rng)) (a0_10 : List (den (.int .u8))) : List Arg := [.agg [.l (.v (.int .i64 a0_0)), .l (.v (.int .i64 a0_1)), .l (.v (.int .i64 a0_2)), .l (.v (.int .i64 a0_3)), .l (.v (.int .i64 a0_4)), .l (.v (.bool a0_5)), .l (.v (.bool a0_6)), .l (.v (.bool a0_7)), .l (.v (.bool a0_8)), .l (.s .ro rng a0_9), .l (.s .ro (.int .u8) a0_10)]]
def F24_r (r : Int × Int × Int × Int × Int × Bool × Bool × Bool × Bool × List (den rng) × List (den (.int .u8))) : A × List (List Leaf) := (.agg [.v (.int .i64 r.1), .v (.int .i64 r.2.1), .v (.int .i64 r.2.2.1), .v (.int .i64 r.2.2.2.1), .v (.int .i64 r.2.2.2.2.1), .v (.bool r.2.2.2.2.2.1), .v (.bool r.2.2.2.2.2.2.1), .v (.bool r.2.2.2.2.2.2.2.1), .v (.bool r.2.2.2.2.2.2.2.2.1), .s .own rng r.2.2.2.2.2.2.2.2.2.1, .s .own (.int .u8) r.2.2.2.2.2.2.2.2.2.2], [])
def F24_T {β : Type} (k : Nat) (a0_0 a0_1 a0_2 a0_3 a0_4 : Int) (a0_5 a0_6 a0_7 a0_8 : Bool) (a0_9 : List (den rng)) (a0_10 : List (den (.int .u8))) (RET : (Int × Int × Int × Int × Int × Bool × Bool × Bool × Bool × List (den rng) × List (den (.int .u8))) → Option β) : Option β := (F51 k a0_9).bind fun b1 => (F52 k a0_10).bind fun b2 => RET (a0_0, a0_1, a0_2, a0_3, a0_4, a0_5, a0_6, a0_7, a0_8, b1, b2)
def F24 (k : Nat) (a0_0 a0_1 a0_2 a0_3 a0_4 : Int) (a0_5 a0_6 a0_7 a0_8 : Bool) (a0_9 : List (den rng)) (a0_10 : List (den (.int .u8))) : Option (Int × Int × Int × Int × Int × Bool × Bool × Bool × Bool × List (den rng) × List (den (.int .u8))) := F24_T k a0_0 a0_1 a0_2 a0_3 a0_4 a0_5 a0_6 a0_7 a0_8 a0_9 a0_10 some
theorem F24_st {β : Type} (k : Nat) (a0_0 a0_1 a0_2 a0_3 a0_4 : Int) (a0_5 a0_6 a0_7 a0_8 : Bool) (a0_9 : List (den rng)) (a0_10 : List (den (.int .u8))) (K : A × List (List Leaf) → Option β) : evalF (F24_E k) Try.f24 (F24_a a0_0 a0_1 a0_2 a0_3 a0_4 a0_5 a0_6 a0_7 a0_8 a0_9 a0_10) K =
    F24_T k a0_0 a0_1 a0_2 a0_3 a0_4 a0_5 a0_6 a0_7 a0_8 a0_9 a0_10 (fun r => K (F24_r r)) := by kernel_rfl
theorem F24_ev {β : Type} (k : Nat) (a0_0 a0_1 a0_2 a0_3 a0_4 : Int) (a0_5 a0_6 a0_7 a0_8 : Bool) (a0_9 : List (den rng)) (a0_10 : List (den (.int .u8))) (K : A × List (List Leaf) → Option β) : evalF (F24_E k) Try.f24 (F24_a a0_0 a0_1 a0_2 a0_3 a0_4 a0_5 a0_6 a0_7 a0_8 a0_9 a0_10) K = (F24 k a0_0 a0_1 a0_2 a0_3 a0_4 a0_5 a0_6 a0_7 a0_8 a0_9 a0_10).bind fun r => K (F24_r r) := by
  rw [F24_st, F24]
  simp only [F24_T, bind_cond, Option.bind_assoc, Option.bind_some, Option.bind_none, Option.bind_fun_some]
theorem F24_tOk (k : Nat) : TabFn Try.prog (F24_t k) := .ent (F51_q k) F51_f (.ent (F52_q k) F52_f (.none))
theorem F24_con (k : Nat) (a0_0 a0_1 a0_2 a0_3 a0_4 : Int) (a0_5 a0_6 a0_7 a0_8 : Bool) (a0_9 : List (den rng)) (a0_10 : List (den (.int .u8))) : Contract Try.prog 24 (F24_a a0_0 a0_1 a0_2 a0_3 a0_4 a0_5 a0_6 a0_7 a0_8 a0_9 a0_10) ⟨F24 k a0_0 a0_1 a0_2 a0_3 a0_4 a0_5 a0_6 a0_7 a0_8 a0_9 a0_10, F24_r⟩ := con_of (envOk (F24_tOk k) _ _ _ _) mixed Try.func24 rfl rfl (F24_ev k a0_0 a0_1 a0_2 a0_3 a0_4 a0_5 a0_6 a0_7 a0_8 a0_9 a0_10 some)
def F24_sh : List AK := [.agg [.l (.int .i64), .l (.int .i64), .l (.int .i64), .l (.int .i64), .l (.int .i64), .l (.bool), .l (.bool), .l (.bool), .l (.bool), .l (.sl .ro rng), .l (.sl .ro (.int .u8))]]
def F24_p (k : Nat) : List Arg → Option CR := cle F24_sh fun x => ⟨F24 k x.1.1 x.1.2.1 x.1.2.2.1 x.1.2.2.2.1 x.1.2.2.2.2.1 x.1.2.2.2.2.2.1 x.1.2.2.2.2.2.2.1 x.1.2.2.2.2.2.2.2.1 x.1.2.2.2.2.2.2.2.2.1 x.1.2.2.2.2.2.2.2.2.2.1 x.1.2.2.2.2.2.2.2.2.2.2.1, F24_r⟩
theorem F24_q (k : Nat) : ∀ xs cr, F24_p k xs = some cr → Contract Try.prog 24 xs cr := cle_ok fun x => F24_con k _ _ _ _ _ _ _ _ _ _ _
theorem F24_f : FnOk Try.prog 24 := .of (by kernel_rfl)
/-! 58: slices.Grow[[]byte,byte] -/
abbrev F58_E (k : Nat) : Env := env noTab noHint .own [] k
abbrev F58_a (a1 : Int) : List Arg := [.one (.l (.v (.slice none 0 0))), .one (.l (.v (.int .i64 a1)))]
def F58_r (r : List (den (.int .u8))) : A × List (List Leaf) := (.one (.s .own (.int .u8) r), [])
def F58_T {β : Type} (k : Nat) (a1 : Int) (RET : List (den (.int .u8)) → Option β) : Option β := cond (decide (a1 < 0)) none (cond (decide ((IntKind.i64.wrap (a1 - 0)) > 0)) (cond (decide (0 ≤ 0) && decide (0 ≤ ((0 : Nat) : Int))) (cond (decide (0 < (IntKind.i64.wrap (a1 - 0))) && decide ((IntKind.i64.wrap (a1 - 0)) * (1 : Nat) ≤ 140737488355328)) (cond (decide (0 ≤ 0) && decide (0 ≤ (((List.replicate ((IntKind.i64.wrap (a1 - 0)).toNat) (dflt (.int .u8))).length : Nat) : Int))) (RET (((List.replicate ((IntKind.i64.wrap (a1 - 0)).toNat) (dflt (.int .u8))).take 0).drop 0)) none) none) none) (RET []))
def F58 (k : Nat) (a1 : Int) : Option (List (den (.int .u8))) := F58_T k a1 some
theorem F58_st {β : Type} (k : Nat) (a1 : Int) (K : A × List (List Leaf) → Option β) : evalF (F58_E k) Try.f58 (F58_a a1) K =
    F58_T k a1 (fun r => K (F58_r r)) := by kernel_rfl
theorem F58_ev {β : Type} (k : Nat) (a1 : Int) (K : A × List (List Leaf) → Option β) : evalF (F58_E k) Try.f58 (F58_a a1) K = (F58 k a1).bind fun r => K (F58_r r) := by
  rw [F58_st, F58]
  simp only [F58_T, bind_cond, Option.bind_assoc, Option.bind_some, Option.bind_none, Option.bind_fun_some]
theorem F58_con (k : Nat) (a1 : Int) : Contract Try.prog 58 (F58_a a1) ⟨F58 k a1, F58_r⟩ := con_of (envOk .none _ _ _ _) mixed Try.func58 rfl rfl (F58_ev k a1 some)
def F58_sh : List AK := [.one (.l (.nil)), .one (.l (.int .i64))]
def F58_p (k : Nat) : List Arg → Option CR := cle F58_sh fun x => ⟨F58 k x.2.1, F58_r⟩
theorem F58_q (k : Nat) : ∀ xs cr, F58_p k xs = some cr → Contract Try.prog 58 xs cr := cle_ok fun x => F58_con k _
theorem F58_f : FnOk Try.prog 58 := .of (by kernel_rfl)
/-! 38: slices.Concat[[]byte,byte] -/
def F38_h : Nat → Hint
  | 0 => ⟨[(0, .plain), (3, .plain), (9, .plain), (10, .plain), (11, .plain)], []⟩
  | 2 => ⟨[(6, .own .own (.int .u8) []), (25, .plain), (26, .plain), (27, .plain)], []⟩
  | _ => ⟨[], []⟩
def F38_t (k : Nat) : Tab := entT 58 (F58_p k) <| noTab
abbrev F38_E (k : Nat) : Env := env (F38_t k) F38_h .own [] k
abbrev F38_a (a0 : List (den (.sl (.int .u8)))) : List Arg := [.one (.l (.s .ro (.sl (.int .u8)) a0))]
def F38_r (r : List (den (.int .u8))) : A × List (List Leaf) := (.one (.s .own (.int .u8) r), [])
def F38_s2 (a0 : List (den (.sl (.int .u8)))) (x27_2 : Int) (m6900_2 : List (den (.int .u8))) : St := ⟨dz 6 ((.one (.a (.cell 6900) 0 0 none)) :: dz 18 ((.one (.s .ro (.sl (.int .u8)) a0)) :: (.one (.v (.int .i64 ((a0.length : Nat) : Int)))) :: (.one (.v (.int .i64 x27_2))) :: dz 8 [])), [(6900, ⟨.s .own (.int .u8) m6900_2, 0, 0⟩)]⟩
def F38_l2_T {β : Type} (k : Nat) (a0 : List (den (.sl (.int .u8)))) (NX : Int → List (den (.int .u8)) → Option β) (RET : List (den (.int .u8)) → Option β) (x27_2 : Int) (m6900_2 : List (den (.int .u8))) : Option β := cond (decide (x27_2 < ((a0.length : Nat) : Int))) (cond (decide (0 ≤ x27_2)) (cond (decide (x27_2 < ((a0.length : Nat) : Int))) (cond (decide ((m6900_2.length + (atI a0 x27_2).length) * 1 ≤ 140737488355328)) (NX (IntKind.i64.wrap (x27_2 + 1)) (m6900_2 ++ (atI a0 x27_2))) none) none) none) (RET m6900_2)
def F38_l2 (k : Nat) (a0 : List (den (.sl (.int .u8)))) : Nat → Int → List (den (.int .u8)) → Option (List (den (.int .u8)))
  | 0, _, _ => none
  | n + 1, x27_2, m6900_2 => F38_l2_T k a0 (fun x27_2 m6900_2 => F38_l2 k a0 n x27_2 m6900_2) some x27_2 m6900_2
theorem F38_l2_rd {β : Type} (k n : Nat) (a0 : List (den (.sl (.int .u8)))) (x27_2 : Int) (m6900_2 : List (den (.int .u8))) (K : A × List (List Leaf) → Option β) :
    loopG (F38_E k) Try.f38 [1, 1, 1, 1, 0, 1, 0] 2 (kontAt (F38_E k) [1, 1, 1, 1, 0, 1, 0] (bodyOf Try.f38) 0 (endC (F38_E k) Try.f38 (F38_a a0) K)) (n + 1) (F38_s2 a0 x27_2 m6900_2) =
    F38_l2_T k a0 (fun x27_2 m6900_2 => loopG (F38_E k) Try.f38 [1, 1, 1, 1, 0, 1, 0] 2 (kontAt (F38_E k) [1, 1, 1, 1, 0, 1, 0] (bodyOf Try.f38) 0 (endC (F38_E k) Try.f38 (F38_a a0) K)) n (F38_s2 a0 x27_2 m6900_2)) (fun r => K (F38_r r)) x27_2 m6900_2 := by kernel_rfl
theorem F38_l2_lp {β : Type} (k : Nat) (a0 : List (den (.sl (.int .u8)))) (K : A × List (List Leaf) → Option β) (n : Nat) : ∀ (x27_2 : Int) (m6900_2 : List (den (.int .u8))), loopG (F38_E k) Try.f38 [1, 1, 1, 1, 0, 1, 0] 2 (kontAt (F38_E k) [1, 1, 1, 1, 0, 1, 0] (bodyOf Try.f38) 0 (endC (F38_E k) Try.f38 (F38_a a0) K)) n (F38_s2 a0 x27_2 m6900_2) =
    (F38_l2 k a0 n x27_2 m6900_2).bind fun r => K (F38_r r) := by
  induction n with
  | zero => intros; rfl
  | succ n ih =>
    intros
    rw [F38_l2_rd, F38_l2]
    simp only [F38_l2_T, bind_cond, Option.bind_assoc, Option.bind_some, Option.bind_none, Option.bind_fun_some, ih]
def F38_s0 (a0 : List (den (.sl (.int .u8)))) (x3_0 x11_0 : Int) : St := ⟨(.one (.s .ro (.sl (.int .u8)) a0)) :: (.one .d) :: (.one .d) :: (.one (.v (.int .i64 x3_0))) :: dz 5 ((.one (.s .ro (.sl (.int .u8)) a0)) :: (.one (.v (.int .i64 ((a0.length : Nat) : Int)))) :: (.one (.v (.int .i64 x11_0))) :: dz 24 []), []⟩
def F38_l0_T {β : Type} (k : Nat) (a0 : List (den (.sl (.int .u8)))) (NX : Int → Int → Option β) (LP2 : Int → List (den (.int .u8)) → Option β) (x3_0 x11_0 : Int) : Option β := cond (decide (x11_0 < ((a0.length : Nat) : Int))) (cond (decide (0 ≤ x11_0)) (cond (decide (x11_0 < ((a0.length : Nat) : Int))) (cond (decide ((IntKind.i64.wrap (x3_0 + (((atI a0 x11_0).length : Nat) : Int))) < 0)) none (NX (IntKind.i64.wrap (x3_0 + (((atI a0 x11_0).length : Nat) : Int))) (IntKind.i64.wrap (x11_0 + 1)))) none) none) ((F58 k x3_0).bind fun b1 => LP2 0 b1)
def F38_l0 (k : Nat) (a0 : List (den (.sl (.int .u8)))) : Nat → Int → Int → Option (List (den (.int .u8)))
  | 0, _, _ => none
  | n + 1, x3_0, x11_0 => F38_l0_T k a0 (fun x3_0 x11_0 => F38_l0 k a0 n x3_0 x11_0) (fun x27_2 m6900_2 => F38_l2 k a0 k x27_2 m6900_2) x3_0 x11_0
theorem F38_l0_rd {β : Type} (k n : Nat) (a0 : List (den (.sl (.int .u8)))) (x3_0 x11_0 : Int) (K : A × List (List Leaf) → Option β) :
    loopG (F38_E k) Try.f38 [1, 1, 0, 1, 0] 0 (kontAt (F38_E k) [1, 1, 0, 1, 0] (bodyOf Try.f38) 0 (endC (F38_E k) Try.f38 (F38_a a0) K)) (n + 1) (F38_s0 a0 x3_0 x11_0) =
    F38_l0_T k a0 (fun x3_0 x11_0 => loopG (F38_E k) Try.f38 [1, 1, 0, 1, 0] 0 (kontAt (F38_E k) [1, 1, 0, 1, 0] (bodyOf Try.f38) 0 (endC (F38_E k) Try.f38 (F38_a a0) K)) n (F38_s0 a0 x3_0 x11_0)) (fun x27_2 m6900_2 => loopG (F38_E k) Try.f38 [1, 1, 1, 1, 0, 1, 0] 2 (kontAt (F38_E k) [1, 1, 1, 1, 0, 1, 0] (bodyOf Try.f38) 0 (endC (F38_E k) Try.f38 (F38_a a0) K)) k (F38_s2 a0 x27_2 m6900_2)) x3_0 x11_0 := by kernel_rfl
theorem F38_l0_lp {β : Type} (k : Nat) (a0 : List (den (.sl (.int .u8)))) (K : A × List (List Leaf) → Option β) (n : Nat) : ∀ (x3_0 x11_0 : Int), loopG (F38_E k) Try.f38 [1, 1, 0, 1, 0] 0 (kontAt (F38_E k) [1, 1, 0, 1, 0] (bodyOf Try.f38) 0 (endC (F38_E k) Try.f38 (F38_a a0) K)) n (F38_s0 a0 x3_0 x11_0) =
    (F38_l0 k a0 n x3_0 x11_0).bind fun r => K (F38_r r) := by
  induction n with
  | zero => intros; rfl
  | succ n ih =>
    intros
    rw [F38_l0_rd, F38_l0]
    simp only [F38_l0_T, bind_cond, Option.bind_assoc, Option.bind_some, Option.bind_none, Option.bind_fun_some, F38_l2_lp, ih]
def F38_T {β : Type} (k : Nat) (a0 : List (den (.sl (.int .u8)))) (LP0 : Int → Int → Option β) : Option β := LP0 0 0
def F38 (k : Nat) (a0 : List (den (.sl (.int .u8)))) : Option (List (den (.int .u8))) := F38_T k a0 (fun x3_0 x11_0 => F38_l0 k a0 k x3_0 x11_0)
theorem F38_st {β : Type} (k : Nat) (a0 : List (den (.sl (.int .u8)))) (K : A × List (List Leaf) → Option β) : evalF (F38_E k) Try.f38 (F38_a a0) K =
    F38_T k a0 (fun x3_0 x11_0 => loopG (F38_E k) Try.f38 [1, 1, 0, 1, 0] 0 (kontAt (F38_E k) [1, 1, 0, 1, 0] (bodyOf Try.f38) 0 (endC (F38_E k) Try.f38 (F38_a a0) K)) k (F38_s0 a0 x3_0 x11_0)) := by kernel_rfl
theorem F38_ev {β : Type} (k : Nat) (a0 : List (den (.sl (.int .u8)))) (K : A × List (List Leaf) → Option β) : evalF (F38_E k) Try.f38 (F38_a a0) K = (F38 k a0).bind fun r => K (F38_r r) := by
  rw [F38_st, F38]
  simp only [F38_T, bind_cond, Option.bind_assoc, Option.bind_some, Option.bind_none, Option.bind_fun_some, F38_l0_lp]
theorem F38_tOk (k : Nat) : TabFn Try.prog (F38_t k) := .ent (F58_q k) F58_f (.none)
theorem F38_con (k : Nat) (a0 : List (den (.sl (.int .u8)))) : Contract Try.prog 38 (F38_a a0) ⟨F38 k a0, F38_r⟩ := con_of (envOk (F38_tOk k) _ _ _ _) mixed Try.func38 rfl rfl (F38_ev k a0 some)
def F38_sh : List AK := [.one (.l (.sl .ro (.sl (.int .u8))))]
def F38_p (k : Nat) : List Arg → Option CR := cle F38_sh fun x => ⟨F38 k x.1, F38_r⟩
theorem F38_q (k : Nat) : ∀ xs cr, F38_p k xs = some cr → Contract Try.prog 38 xs cr := cle_ok fun x => F38_con k _
theorem F38_f : FnOk Try.prog 38 := .of (by kernel_rfl)
/-! 11: loop.example/netstack/impl.SegmentJoin -/
def F11_t (k : Nat) : Tab := entT 10 (F10_p k) <| entT 36 (F36_p k) <| entT 9 (F9_p k) <| entT 37 (F37_p k) <| entT 24 (F24_p k) <| entT 38 (F38_p k) <| noTab
abbrev F11_E (k : Nat) : Env := env (F11_t k) noHint .own [] k
abbrev F11_a (a0_0 a0_1 a0_2 a0_3 a0_4 : Int) (a0_5 a0_6 a0_7 a0_8 : Bool) (a0_9 : List (den rng)) (a0_10 : List (den (.int .u8))) (a1_0 a1_1 a1_2 a1_3 a1_4 : Int) (a1_5 a1_6 a1_7 a1_8 : Bool) (a1_9 : List (den rng)) (a1_10 : List (den (.int .u8))) : List Arg := [.agg [.l (.v (.int .i64 a0_0)), .l (.v (.int .i64 a0_1)), .l (.v (.int .i64 a0_2)), .l (.v (.int .i64 a0_3)), .l (.v (.int .i64 a0_4)), .l (.v (.bool a0_5)), .l (.v (.bool a0_6)), .l (.v (.bool a0_7)), .l (.v (.bool a0_8)), .l (.s .ro rng a0_9), .l (.s .ro (.int .u8) a0_10)], .agg [.l (.v (.int .i64 a1_0)), .l (.v (.int .i64 a1_1)), .l (.v (.int .i64 a1_2)), .l (.v (.int .i64 a1_3)), .l (.v (.int .i64 a1_4)), .l (.v (.bool a1_5)), .l (.v (.bool a1_6)), .l (.v (.bool a1_7)), .l (.v (.bool a1_8)), .l (.s .ro rng a1_9), .l (.s .ro (.int .u8) a1_10)]]
def F11_r (r : Int × Int × Int × Int × Int × Bool × Bool × Bool × Bool × List (den rng) × List (den (.int .u8)) × Bool) : A × List (List Leaf) := (.tup [(true, [.v (.int .i64 r.1), .v (.int .i64 r.2.1), .v (.int .i64 r.2.2.1), .v (.int .i64 r.2.2.2.1), .v (.int .i64 r.2.2.2.2.1), .v (.bool r.2.2.2.2.2.1), .v (.bool r.2.2.2.2.2.2.1), .v (.bool r.2.2.2.2.2.2.2.1), .v (.bool r.2.2.2.2.2.2.2.2.1), .s .own rng r.2.2.2.2.2.2.2.2.2.1, .s .own (.int .u8) r.2.2.2.2.2.2.2.2.2.2.1]), (false, [.v (.bool r.2.2.2.2.2.2.2.2.2.2.2)])], [])
def F11_T {β : Type} (k : Nat) (a0_0 a0_1 a0_2 a0_3 a0_4 : Int) (a0_5 a0_6 a0_7 a0_8 : Bool) (a0_9 : List (den rng)) (a0_10 : List (den (.int .u8))) (a1_0 a1_1 a1_2 a1_3 a1_4 : Int) (a1_5 a1_6 a1_7 a1_8 : Bool) (a1_9 : List (den rng)) (a1_10 : List (den (.int .u8))) (RET : (Int × Int × Int × Int × Int × Bool × Bool × Bool × Bool × List (den rng) × List (den (.int .u8)) × Bool) → Option β) : Option β := (F10 k a0_0 a0_1 a0_2 a0_3 a0_4 a0_5 a0_6 a0_7 a0_8 a0_9 a0_10).bind fun b1 => cond (!b1) (RET (0, 0, 0, 0, 0, false, false, false, false, [], [], false)) ((F10 k a1_0 a1_1 a1_2 a1_3 a1_4 a1_5 a1_6 a1_7 a1_8 a1_9 a1_10).bind fun b2 => cond (!b2) (RET (0, 0, 0, 0, 0, false, false, false, false, [], [], false)) (cond (a0_0 != a1_0) (RET (0, 0, 0, 0, 0, false, false, false, false, [], [], false)) (cond (a0_1 != a1_1) (RET (0, 0, 0, 0, 0, false, false, false, false, [], [], false)) (cond (!(a0_6 == a1_6)) (RET (0, 0, 0, 0, 0, false, false, false, false, [], [], false)) (cond (a0_3 != a1_3) (RET (0, 0, 0, 0, 0, false, false, false, false, [], [], false)) (cond (a0_4 != a1_4) (RET (0, 0, 0, 0, 0, false, false, false, false, [], [], false)) ((F36 k a0_9 a1_9).bind fun b3 => cond (!b3) (RET (0, 0, 0, 0, 0, false, false, false, false, [], [], false)) (cond a0_8 (RET (0, 0, 0, 0, 0, false, false, false, false, [], [], false)) (cond a1_8 (RET (0, 0, 0, 0, 0, false, false, false, false, [], [], false)) (cond (((a0_10.length : Nat) : Int) == 0) (RET (0, 0, 0, 0, 0, false, false, false, false, [], [], false)) (cond (((a1_10.length : Nat) : Int) == 0) (RET (0, 0, 0, 0, 0, false, false, false, false, [], [], false)) (cond a0_7 (RET (0, 0, 0, 0, 0, false, false, false, false, [], [], false)) (cond a1_5 (RET (0, 0, 0, 0, 0, false, false, false, false, [], [], false)) ((F9 k a0_0 a0_1 a0_2 a0_3 a0_4 a0_5 a0_6 a0_7 a0_8 a0_9 a0_10).bind fun b4 => (F37 k (IntKind.i64.wrap (a0_2 + b4))).bind fun b5 => cond (a1_2 != b5) (RET (0, 0, 0, 0, 0, false, false, false, false, [], [], false)) (cond (decide ((IntKind.i64.wrap (((a0_10.length : Nat) : Int) + ((a1_10.length : Nat) : Int))) > 12)) (RET (0, 0, 0, 0, 0, false, false, false, false, [], [], false)) ((F24 k a0_0 a0_1 a0_2 a0_3 a0_4 a0_5 a0_6 a0_7 a0_8 a0_9 a0_10).bind fun b6 => (F38 k [a0_10, a1_10]).bind fun b7 => (F24 k b6.1 b6.2.1 b6.2.2.1 b6.2.2.2.1 b6.2.2.2.2.1 b6.2.2.2.2.2.1 b6.2.2.2.2.2.2.1 a1_7 b6.2.2.2.2.2.2.2.2.1 b6.2.2.2.2.2.2.2.2.2.1 b7).bind fun b8 => RET (b8.1, b8.2.1, b8.2.2.1, b8.2.2.2.1, b8.2.2.2.2.1, b8.2.2.2.2.2.1, b8.2.2.2.2.2.2.1, b8.2.2.2.2.2.2.2.1, b8.2.2.2.2.2.2.2.2.1, b8.2.2.2.2.2.2.2.2.2.1, b8.2.2.2.2.2.2.2.2.2.2, true)))))))))))))))))
def F11 (k : Nat) (a0_0 a0_1 a0_2 a0_3 a0_4 : Int) (a0_5 a0_6 a0_7 a0_8 : Bool) (a0_9 : List (den rng)) (a0_10 : List (den (.int .u8))) (a1_0 a1_1 a1_2 a1_3 a1_4 : Int) (a1_5 a1_6 a1_7 a1_8 : Bool) (a1_9 : List (den rng)) (a1_10 : List (den (.int .u8))) : Option (Int × Int × Int × Int × Int × Bool × Bool × Bool × Bool × List (den rng) × List (den (.int .u8)) × Bool) := F11_T k a0_0 a0_1 a0_2 a0_3 a0_4 a0_5 a0_6 a0_7 a0_8 a0_9 a0_10 a1_0 a1_1 a1_2 a1_3 a1_4 a1_5 a1_6 a1_7 a1_8 a1_9 a1_10 some
theorem F11_st {β : Type} (k : Nat) (a0_0 a0_1 a0_2 a0_3 a0_4 : Int) (a0_5 a0_6 a0_7 a0_8 : Bool) (a0_9 : List (den rng)) (a0_10 : List (den (.int .u8))) (a1_0 a1_1 a1_2 a1_3 a1_4 : Int) (a1_5 a1_6 a1_7 a1_8 : Bool) (a1_9 : List (den rng)) (a1_10 : List (den (.int .u8))) (K : A × List (List Leaf) → Option β) : evalF (F11_E k) Try.f11 (F11_a a0_0 a0_1 a0_2 a0_3 a0_4 a0_5 a0_6 a0_7 a0_8 a0_9 a0_10 a1_0 a1_1 a1_2 a1_3 a1_4 a1_5 a1_6 a1_7 a1_8 a1_9 a1_10) K =
    F11_T k a0_0 a0_1 a0_2 a0_3 a0_4 a0_5 a0_6 a0_7 a0_8 a0_9 a0_10 a1_0 a1_1 a1_2 a1_3 a1_4 a1_5 a1_6 a1_7 a1_8 a1_9 a1_10 (fun r => K (F11_r r)) := by kernel_rfl
theorem F11_ev {β : Type} (k : Nat) (a0_0 a0_1 a0_2 a0_3 a0_4 : Int) (a0_5 a0_6 a0_7 a0_8 : Bool) (a0_9 : List (den rng)) (a0_10 : List (den (.int .u8))) (a1_0 a1_1 a1_2 a1_3 a1_4 : Int) (a1_5 a1_6 a1_7 a1_8 : Bool) (a1_9 : List (den rng)) (a1_10 : List (den (.int .u8))) (K : A × List (List Leaf) → Option β) : evalF (F11_E k) Try.f11 (F11_a a0_0 a0_1 a0_2 a0_3 a0_4 a0_5 a0_6 a0_7 a0_8 a0_9 a0_10 a1_0 a1_1 a1_2 a1_3 a1_4 a1_5 a1_6 a1_7 a1_8 a1_9 a1_10) K = (F11 k a0_0 a0_1 a0_2 a0_3 a0_4 a0_5 a0_6 a0_7 a0_8 a0_9 a0_10 a1_0 a1_1 a1_2 a1_3 a1_4 a1_5 a1_6 a1_7 a1_8 a1_9 a1_10).bind fun r => K (F11_r r) := by
  rw [F11_st, F11]
  simp only [F11_T, bind_cond, Option.bind_assoc, Option.bind_some, Option.bind_none, Option.bind_fun_some]
theorem F11_tOk (k : Nat) : TabFn Try.prog (F11_t k) := .ent (F10_q k) F10_f (.ent (F36_q k) F36_f (.ent (F9_q k) F9_f (.ent (F37_q k) F37_f (.ent (F24_q k) F24_f (.ent (F38_q k) F38_f (.none))))))
theorem F11_con (k : Nat) (a0_0 a0_1 a0_2 a0_3 a0_4 : Int) (a0_5 a0_6 a0_7 a0_8 : Bool) (a0_9 : List (den rng)) (a0_10 : List (den (.int .u8))) (a1_0 a1_1 a1_2 a1_3 a1_4 : Int) (a1_5 a1_6 a1_7 a1_8 : Bool) (a1_9 : List (den rng)) (a1_10 : List (den (.int .u8))) : Contract Try.prog 11 (F11_a a0_0 a0_1 a0_2 a0_3 a0_4 a0_5 a0_6 a0_7 a0_8 a0_9 a0_10 a1_0 a1_1 a1_2 a1_3 a1_4 a1_5 a1_6 a1_7 a1_8 a1_9 a1_10) ⟨F11 k a0_0 a0_1 a0_2 a0_3 a0_4 a0_5 a0_6 a0_7 a0_8 a0_9 a0_10 a1_0 a1_1 a1_2 a1_3 a1_4 a1_5 a1_6 a1_7 a1_8 a1_9 a1_10, F11_r⟩ := con_of (envOk (F11_tOk k) _ _ _ _) mixed Try.func11 rfl rfl (F11_ev k a0_0 a0_1 a0_2 a0_3 a0_4 a0_5 a0_6 a0_7 a0_8 a0_9 a0_10 a1_0 a1_1 a1_2 a1_3 a1_4 a1_5 a1_6 a1_7 a1_8 a1_9 a1_10 some)
def F11_sh : List AK := [.agg [.l (.int .i64), .l (.int .i64), .l (.int .i64), .l (.int .i64), .l (.int .i64), .l (.bool), .l (.bool), .l (.bool), .l (.bool), .l (.sl .ro rng), .l (.sl .ro (.int .u8))], .agg [.l (.int .i64), .l (.int .i64), .l (.int .i64), .l (.int .i64), .l (.int .i64), .l (.bool), .l (.bool), .l (.bool), .l (.bool), .l (.sl .ro rng), .l (.sl .ro (.int .u8))]]
def F11_p (k : Nat) : List Arg → Option CR := cle F11_sh fun x => ⟨F11 k x.1.1 x.1.2.1 x.1.2.2.1 x.1.2.2.2.1 x.1.2.2.2.2.1 x.1.2.2.2.2.2.1 x.1.2.2.2.2.2.2.1 x.1.2.2.2.2.2.2.2.1 x.1.2.2.2.2.2.2.2.2.1 x.1.2.2.2.2.2.2.2.2.2.1 x.1.2.2.2.2.2.2.2.2.2.2.1 x.2.1.1 x.2.1.2.1 x.2.1.2.2.1 x.2.1.2.2.2.1 x.2.1.2.2.2.2.1 x.2.1.2.2.2.2.2.1 x.2.1.2.2.2.2.2.2.1 x.2.1.2.2.2.2.2.2.2.1 x.2.1.2.2.2.2.2.2.2.2.1 x.2.1.2.2.2.2.2.2.2.2.2.1 x.2.1.2.2.2.2.2.2.2.2.2.2.1, F11_r⟩
theorem F11_q (k : Nat) : ∀ xs cr, F11_p k xs = some cr → Contract Try.prog 11 xs cr := cle_ok fun x => F11_con k _ _ _ _ _ _ _ _ _ _ _ _ _ _ _ _ _ _ _ _ _ _
theorem F11_f : FnOk Try.prog 11 := .of (by kernel_rfl)
/-! 25: slices.Clip[[]loop.example/netstack/impl.Segment,loop.example/netstack/impl.Segment] -/
abbrev F25_E (k : Nat) : Env := env noTab noHint .own [] k
abbrev F25_a (a0 : List (den seg)) : List Arg := [.one (.l (.s .own seg a0))]
def F25_r (r : List (den seg)) : A × List (List Leaf) := (.one (.s .own seg r), [])
def F25_T {β : Type} (k : Nat) (a0 : List (den seg)) (RET : List (den seg) → Option β) : Option β := cond (decide (0 ≤ ((a0.length : Nat) : Int)) && decide (((a0.length : Nat) : Int) ≤ ((a0.length : Nat) : Int))) (cond (decide (((a0.length : Nat) : Int) = ((a0.length : Nat) : Int))) (RET ((a0.take (((a0.length : Nat) : Int).toNat)).drop 0)) none) none
def F25 (k : Nat) (a0 : List (den seg)) : Option (List (den seg)) := F25_T k a0 some
theorem F25_st {β : Type} (k : Nat) (a0 : List (den seg)) (K : A × List (List Leaf) → Option β) : evalF (F25_E k) Try.f25 (F25_a a0) K =
    F25_T k a0 (fun r => K (F25_r r)) := by kernel_rfl
theorem F25_ev {β : Type} (k : Nat) (a0 : List (den seg)) (K : A × List (List Leaf) → Option β) : evalF (F25_E k) Try.f25 (F25_a a0) K = (F25 k a0).bind fun r => K (F25_r r) := by
  rw [F25_st, F25]
  simp only [F25_T, bind_cond, Option.bind_assoc, Option.bind_some, Option.bind_none, Option.bind_fun_some]
theorem F25_con (k : Nat) (a0 : List (den seg)) : Contract Try.prog 25 (F25_a a0) ⟨F25 k a0, F25_r⟩ := con_of (envOk .none _ _ _ _) mixed Try.func25 rfl rfl (F25_ev k a0 some)
def F25_sh : List AK := [.one (.l (.sl .own seg))]
def F25_p (k : Nat) : List Arg → Option CR := cle F25_sh fun x => ⟨F25 k x.1, F25_r⟩
theorem F25_q (k : Nat) : ∀ xs cr, F25_p k xs = some cr → Contract Try.prog 25 xs cr := cle_ok fun x => F25_con k _
theorem F25_f : FnOk Try.prog 25 := .of (by kernel_rfl)
/-! 6: loop.example/netstack/impl.SegmentsJoined -/
def F6_h : Nat → Hint
  | 0 => ⟨[(3, .own .own seg []), (9, .plain), (10, .plain), (11, .plain)], []⟩
  | _ => ⟨[], []⟩
def F6_t (k : Nat) : Tab := entT 10 (F10_p k) <| entT 11 (F11_p k) <| entT 24 (F24_p k) <| entT 25 (F25_p k) <| noTab
abbrev F6_E (k : Nat) : Env := env (F6_t k) F6_h .own [] k
abbrev F6_a (a0 : List (den seg)) : List Arg := [.one (.l (.s .ro seg a0))]
def F6_r (r : List (den seg)) : A × List (List Leaf) := (.one (.s .own seg r), [])
def F6_s0 (a0 : List (den seg)) (x11_0 : Int) (m3900_0 : List (den seg)) : St := ⟨dz 3 ((.one (.a (.cell 3900) 0 0 none)) :: dz 5 ((.one (.s .ro seg a0)) :: (.one (.v (.int .i64 ((a0.length : Nat) : Int)))) :: (.one (.v (.int .i64 x11_0))) :: dz 34 [])), [(3900, ⟨.s .own seg m3900_0, 0, 0⟩)]⟩
def F6_l0_j1 {β : Type} (k : Nat) (a0 : List (den seg)) (NX : Int → List (den seg) → Option β) (RET : List (den seg) → Option β) (x11_0 : Int) (m3900_0 : List (den seg)) : Option β := (F24 k ((atI a0 x11_0).1) (((atI a0 x11_0).2).1) ((((atI a0 x11_0).2).2).1) (((((atI a0 x11_0).2).2).2).1) ((((((atI a0 x11_0).2).2).2).2).1) (((((((atI a0 x11_0).2).2).2).2).2).1) ((((((((atI a0 x11_0).2).2).2).2).2).2).1) (((((((((atI a0 x11_0).2).2).2).2).2).2).2).1) ((((((((((atI a0 x11_0).2).2).2).2).2).2).2).2).1) (((((((((((atI a0 x11_0).2).2).2).2).2).2).2).2).2).1) (((((((((((atI a0 x11_0).2).2).2).2).2).2).2).2).2).2)).bind fun b4 => cond (decide ((m3900_0.length + [b4].length) * 96 ≤ 140737488355328)) (NX (IntKind.i64.wrap (x11_0 + 1)) (m3900_0 ++ [b4])) none
def F6_l0_T {β : Type} (k : Nat) (a0 : List (den seg)) (NX : Int → List (den seg) → Option β) (RET : List (den seg) → Option β) (x11_0 : Int) (m3900_0 : List (den seg)) : Option β := cond (decide (x11_0 < ((a0.length : Nat) : Int))) (cond (decide (0 ≤ x11_0)) (cond (decide (x11_0 < ((a0.length : Nat) : Int))) ((F10 k ((atI a0 x11_0).1) (((atI a0 x11_0).2).1) ((((atI a0 x11_0).2).2).1) (((((atI a0 x11_0).2).2).2).1) ((((((atI a0 x11_0).2).2).2).2).1) (((((((atI a0 x11_0).2).2).2).2).2).1) ((((((((atI a0 x11_0).2).2).2).2).2).2).1) (((((((((atI a0 x11_0).2).2).2).2).2).2).2).1) ((((((((((atI a0 x11_0).2).2).2).2).2).2).2).2).1) (((((((((((atI a0 x11_0).2).2).2).2).2).2).2).2).2).1) (((((((((((atI a0 x11_0).2).2).2).2).2).2).2).2).2).2)).bind fun b1 => cond (!b1) (RET []) (cond (decide (((m3900_0.length : Nat) : Int) > 0)) (cond (decide (0 ≤ (IntKind.i64.wrap (((m3900_0.length : Nat) : Int) - 1)))) (cond (decide ((IntKind.i64.wrap (((m3900_0.length : Nat) : Int) - 1)) < ((m3900_0.length : Nat) : Int))) ((F11 k ((atI m3900_0 (IntKind.i64.wrap (((m3900_0.length : Nat) : Int) - 1))).1) (((atI m3900_0 (IntKind.i64.wrap (((m3900_0.length : Nat) : Int) - 1))).2).1) ((((atI m3900_0 (IntKind.i64.wrap (((m3900_0.length : Nat) : Int) - 1))).2).2).1) (((((atI m3900_0 (IntKind.i64.wrap (((m3900_0.length : Nat) : Int) - 1))).2).2).2).1) ((((((atI m3900_0 (IntKind.i64.wrap (((m3900_0.length : Nat) : Int) - 1))).2).2).2).2).1) (((((((atI m3900_0 (IntKind.i64.wrap (((m3900_0.length : Nat) : Int) - 1))).2).2).2).2).2).1) ((((((((atI m3900_0 (IntKind.i64.wrap (((m3900_0.length : Nat) : Int) - 1))).2).2).2).2).2).2).1) (((((((((atI m3900_0 (IntKind.i64.wrap (((m3900_0.length : Nat) : Int) - 1))).2).2).2).2).2).2).2).1) ((((((((((atI m3900_0 (IntKind.i64.wrap (((m3900_0.length : Nat) : Int) - 1))).2).2).2).2).2).2).2).2).1) (((((((((((atI m3900_0 (IntKind.i64.wrap (((m3900_0.length : Nat) : Int) - 1))).2).2).2).2).2).2).2).2).2).1) (((((((((((atI m3900_0 (IntKind.i64.wrap (((m3900_0.length : Nat) : Int) - 1))).2).2).2).2).2).2).2).2).2).2) ((atI a0 x11_0).1) (((atI a0 x11_0).2).1) ((((atI a0 x11_0).2).2).1) (((((atI a0 x11_0).2).2).2).1) ((((((atI a0 x11_0).2).2).2).2).1) (((((((atI a0 x11_0).2).2).2).2).2).1) ((((((((atI a0 x11_0).2).2).2).2).2).2).1) (((((((((atI a0 x11_0).2).2).2).2).2).2).2).1) ((((((((((atI a0 x11_0).2).2).2).2).2).2).2).2).1) (((((((((((atI a0 x11_0).2).2).2).2).2).2).2).2).2).1) (((((((((((atI a0 x11_0).2).2).2).2).2).2).2).2).2).2)).bind fun b2 => cond b2.2.2.2.2.2.2.2.2.2.2.2 (cond (decide (0 ≤ (IntKind.i64.wrap (((m3900_0.length : Nat) : Int) - 1)))) (cond (decide ((IntKind.i64.wrap (((m3900_0.length : Nat) : Int) - 1)) < ((m3900_0.length : Nat) : Int))) ((sto (m3900_0.set ((IntKind.i64.wrap (((m3900_0.length : Nat) : Int) - 1)).toNat) (b2.1, b2.2.1, b2.2.2.1, b2.2.2.2.1, b2.2.2.2.2.1, b2.2.2.2.2.2.1, b2.2.2.2.2.2.2.1, b2.2.2.2.2.2.2.2.1, b2.2.2.2.2.2.2.2.2.1, b2.2.2.2.2.2.2.2.2.2.1, b2.2.2.2.2.2.2.2.2.2.2.1))).bind fun b3 => NX (IntKind.i64.wrap (x11_0 + 1)) b3) none) none) (F6_l0_j1 k a0 NX RET x11_0 m3900_0)) none) none) (F6_l0_j1 k a0 NX RET x11_0 m3900_0))) none) none) ((F25 k m3900_0).bind fun b6 => RET b6)
def F6_l0 (k : Nat) (a0 : List (den seg)) : Nat → Int → List (den seg) → Option (List (den seg))
  | 0, _, _ => none
  | n + 1, x11_0, m3900_0 => F6_l0_T k a0 (fun x11_0 m3900_0 => F6_l0 k a0 n x11_0 m3900_0) some x11_0 m3900_0
theorem F6_l0_rd {β : Type} (k n : Nat) (a0 : List (den seg)) (x11_0 : Int) (m3900_0 : List (den seg)) (K : A × List (List Leaf) → Option β) :
    loopG (F6_E k) Try.f6 [1, 1, 0, 1, 0] 0 (kontAt (F6_E k) [1, 1, 0, 1, 0] (bodyOf Try.f6) 0 (endC (F6_E k) Try.f6 (F6_a a0) K)) (n + 1) (F6_s0 a0 x11_0 m3900_0) =
    F6_l0_T k a0 (fun x11_0 m3900_0 => loopG (F6_E k) Try.f6 [1, 1, 0, 1, 0] 0 (kontAt (F6_E k) [1, 1, 0, 1, 0] (bodyOf Try.f6) 0 (endC (F6_E k) Try.f6 (F6_a a0) K)) n (F6_s0 a0 x11_0 m3900_0)) (fun r => K (F6_r r)) x11_0 m3900_0 := by kernel_rfl
theorem F6_l0_lp {β : Type} (k : Nat) (a0 : List (den seg)) (K : A × List (List Leaf) → Option β) (n : Nat) : ∀ (x11_0 : Int) (m3900_0 : List (den seg)), loopG (F6_E k) Try.f6 [1, 1, 0, 1, 0] 0 (kontAt (F6_E k) [1, 1, 0, 1, 0] (bodyOf Try.f6) 0 (endC (F6_E k) Try.f6 (F6_a a0) K)) n (F6_s0 a0 x11_0 m3900_0) =
    (F6_l0 k a0 n x11_0 m3900_0).bind fun r => K (F6_r r) := by
  induction n with
  | zero => intros; rfl
  | succ n ih =>
    intros
    rw [F6_l0_rd, F6_l0]
    simp only [F6_l0_T, F6_l0_j1, bind_cond, Option.bind_assoc, Option.bind_some, Option.bind_none, Option.bind_fun_some, ih]
def F6_T {β : Type} (k : Nat) (a0 : List (den seg)) (LP0 : Int → List (den seg) → Option β) : Option β := LP0 0 []
def F6 (k : Nat) (a0 : List (den seg)) : Option (List (den seg)) := F6_T k a0 (fun x11_0 m3900_0 => F6_l0 k a0 k x11_0 m3900_0)
theorem F6_st {β : Type} (k : Nat) (a0 : List (den seg)) (K : A × List (List Leaf) → Option β) : evalF (F6_E k) Try.f6 (F6_a a0) K =
    F6_T k a0 (fun x11_0 m3900_0 => loopG (F6_E k) Try.f6 [1, 1, 0, 1, 0] 0 (kontAt (F6_E k) [1, 1, 0, 1, 0] (bodyOf Try.f6) 0 (endC (F6_E k) Try.f6 (F6_a a0) K)) k (F6_s0 a0 x11_0 m3900_0)) := by kernel_rfl
theorem F6_ev {β : Type} (k : Nat) (a0 : List (den seg)) (K : A × List (List Leaf) → Option β) : evalF (F6_E k) Try.f6 (F6_a a0) K = (F6 k a0).bind fun r => K (F6_r r) := by
  rw [F6_st, F6]
  simp only [F6_T, bind_cond, Option.bind_assoc, Option.bind_some, Option.bind_none, Option.bind_fun_some, F6_l0_lp]
theorem F6_tOk (k : Nat) : TabFn Try.prog (F6_t k) := .ent (F10_q k) F10_f (.ent (F11_q k) F11_f (.ent (F24_q k) F24_f (.ent (F25_q k) F25_f (.none))))
theorem F6_con (k : Nat) (a0 : List (den seg)) : Contract Try.prog 6 (F6_a a0) ⟨F6 k a0, F6_r⟩ := con_of (envOk (F6_tOk k) _ _ _ _) mixed Try.func6 rfl rfl (F6_ev k a0 some)
def F6_sh : List AK := [.one (.l (.sl .ro seg))]
def F6_p (k : Nat) : List Arg → Option CR := cle F6_sh fun x => ⟨F6 k x.1, F6_r⟩
theorem F6_q (k : Nat) : ∀ xs cr, F6_p k xs = some cr → Contract Try.prog 6 xs cr := cle_ok fun x => F6_con k _
theorem F6_f : FnOk Try.prog 6 := .of (by kernel_rfl)
/-! 55: loop.example/netstack/spec.l21Same -/
def F55_h : Nat → Hint
  | 0 => ⟨[(2, .plain), (3, .plain), (5, .plain)], [(2000, .plain), (2001, .plain), (2002, .plain), (2003, .plain), (2004, .plain), (2005, .plain), (2006, .plain), (2007, .plain), (2008, .plain), (2009, .plain), (2010, .plain), (3000, .plain), (3001, .plain), (3002, .plain), (3003, .plain), (3004, .plain), (3005, .plain), (3006, .plain), (3007, .plain), (3008, .plain), (3009, .plain), (3010, .plain)]⟩
  | _ => ⟨[], []⟩
abbrev F55_E (k : Nat) : Env := env noTab F55_h .own [] k
abbrev F55_a (a0_0 a0_1 a0_2 a0_3 a0_4 : Int) (a0_5 a0_6 a0_7 a0_8 : Bool) (a0_9 : List (den rng)) (a0_10 : List (den (.int .u8))) (a1_0 a1_1 a1_2 a1_3 a1_4 : Int) (a1_5 a1_6 a1_7 a1_8 : Bool) (a1_9 : List (den rng)) (a1_10 : List (den (.int .u8))) : List Arg := [.agg [.l (.v (.int .i64 a0_0)), .l (.v (.int .i64 a0_1)), .l (.v (.int .i64 a0_2)), .l (.v (.int .i64 a0_3)), .l (.v (.int .i64 a0_4)), .l (.v (.bool a0_5)), .l (.v (.bool a0_6)), .l (.v (.bool a0_7)), .l (.v (.bool a0_8)), .l (.s .ro rng a0_9), .l (.s .ro (.int .u8) a0_10)], .agg [.l (.v (.int .i64 a1_0)), .l (.v (.int .i64 a1_1)), .l (.v (.int .i64 a1_2)), .l (.v (.int .i64 a1_3)), .l (.v (.int .i64 a1_4)), .l (.v (.bool a1_5)), .l (.v (.bool a1_6)), .l (.v (.bool a1_7)), .l (.v (.bool a1_8)), .l (.s .ro rng a1_9), .l (.s .ro (.int .u8) a1_10)]]
def F55_r (r : Bool) : A × List (List Leaf) := (.one (.v (.bool r)), [])
def F55_s0 (a0_0 a0_1 a0_2 a0_3 a0_4 : Int) (a0_5 a0_6 a0_7 a0_8 : Bool) (a0_9 : List (den rng)) (a0_10 : List (den (.int .u8))) (a1_0 a1_1 a1_2 a1_3 a1_4 : Int) (a1_5 a1_6 a1_7 a1_8 : Bool) (a1_9 : List (den rng)) (a1_10 : List (den (.int .u8))) (x5_0 : Int) : St := ⟨(.one .d) :: (.one .d) :: (.one (.ptr (.cell 2000) 11 0)) :: (.one (.ptr (.cell 3000) 11 0)) :: (.one .d) :: (.one (.v (.int .i64 x5_0))) :: dz 60 [], [(2000, ⟨.v (.int .i64 a0_0), 0, 0⟩), (2001, ⟨.v (.int .i64 a0_1), 0, 0⟩), (2002, ⟨.v (.int .i64 a0_2), 0, 0⟩), (2003, ⟨.v (.int .i64 a0_3), 0, 0⟩), (2004, ⟨.v (.int .i64 a0_4), 0, 0⟩), (2005, ⟨.v (.bool a0_5), 0, 0⟩), (2006, ⟨.v (.bool a0_6), 0, 0⟩), (2007, ⟨.v (.bool a0_7), 0, 0⟩), (2008, ⟨.v (.bool a0_8), 0, 0⟩), (2009, ⟨.s .ro rng a0_9, 0, 0⟩), (2010, ⟨.s .ro (.int .u8) a0_10, 0, 0⟩), (3000, ⟨.v (.int .i64 a1_0), 0, 0⟩), (3001, ⟨.v (.int .i64 a1_1), 0, 0⟩), (3002, ⟨.v (.int .i64 a1_2), 0, 0⟩), (3003, ⟨.v (.int .i64 a1_3), 0, 0⟩), (3004, ⟨.v (.int .i64 a1_4), 0, 0⟩), (3005, ⟨.v (.bool a1_5), 0, 0⟩), (3006, ⟨.v (.bool a1_6), 0, 0⟩), (3007, ⟨.v (.bool a1_7), 0, 0⟩), (3008, ⟨.v (.bool a1_8), 0, 0⟩), (3009, ⟨.s .ro rng a1_9, 0, 0⟩), (3010, ⟨.s .ro (.int .u8) a1_10, 0, 0⟩)]⟩
def F55_l0_T {β : Type} (k : Nat) (a0_0 a0_1 a0_2 a0_3 a0_4 : Int) (a0_5 a0_6 a0_7 a0_8 : Bool) (a0_9 : List (den rng)) (a0_10 : List (den (.int .u8))) (a1_0 a1_1 a1_2 a1_3 a1_4 : Int) (a1_5 a1_6 a1_7 a1_8 : Bool) (a1_9 : List (den rng)) (a1_10 : List (den (.int .u8))) (NX : Int → Option β) (RET : Bool → Option β) (x5_0 : Int) : Option β := cond (decide (x5_0 < ((a0_9.length : Nat) : Int))) (cond (decide (0 ≤ x5_0)) (cond (decide (x5_0 < ((a0_9.length : Nat) : Int))) (cond (decide (0 ≤ x5_0)) (cond (decide (x5_0 < ((a1_9.length : Nat) : Int))) (cond (!(eqD rng (atI a0_9 x5_0) (atI a1_9 x5_0))) (RET false) (NX (IntKind.i64.wrap (x5_0 + 1)))) none) none) none) none) (RET true)
def F55_l0 (k : Nat) (a0_0 a0_1 a0_2 a0_3 a0_4 : Int) (a0_5 a0_6 a0_7 a0_8 : Bool) (a0_9 : List (den rng)) (a0_10 : List (den (.int .u8))) (a1_0 a1_1 a1_2 a1_3 a1_4 : Int) (a1_5 a1_6 a1_7 a1_8 : Bool) (a1_9 : List (den rng)) (a1_10 : List (den (.int .u8))) : Nat → Int → Option (Bool)
  | 0, _ => none
  | n + 1, x5_0 => F55_l0_T k a0_0 a0_1 a0_2 a0_3 a0_4 a0_5 a0_6 a0_7 a0_8 a0_9 a0_10 a1_0 a1_1 a1_2 a1_3 a1_4 a1_5 a1_6 a1_7 a1_8 a1_9 a1_10 (fun x5_0 => F55_l0 k a0_0 a0_1 a0_2 a0_3 a0_4 a0_5 a0_6 a0_7 a0_8 a0_9 a0_10 a1_0 a1_1 a1_2 a1_3 a1_4 a1_5 a1_6 a1_7 a1_8 a1_9 a1_10 n x5_0) some x5_0
theorem F55_l0_rd {β : Type} (k n : Nat) (a0_0 a0_1 a0_2 a0_3 a0_4 : Int) (a0_5 a0_6 a0_7 a0_8 : Bool) (a0_9 : List (den rng)) (a0_10 : List (den (.int .u8))) (a1_0 a1_1 a1_2 a1_3 a1_4 : Int) (a1_5 a1_6 a1_7 a1_8 : Bool) (a1_9 : List (den rng)) (a1_10 : List (den (.int .u8))) (x5_0 : Int) (K : A × List (List Leaf) → Option β) :
    loopG (F55_E k) Try.f55 [1, 1, 0, 1, 0] 0 (kontAt (F55_E k) [1, 1, 0, 1, 0] (bodyOf Try.f55) 0 (endC (F55_E k) Try.f55 (F55_a a0_0 a0_1 a0_2 a0_3 a0_4 a0_5 a0_6 a0_7 a0_8 a0_9 a0_10 a1_0 a1_1 a1_2 a1_3 a1_4 a1_5 a1_6 a1_7 a1_8 a1_9 a1_10) K)) (n + 1) (F55_s0 a0_0 a0_1 a0_2 a0_3 a0_4 a0_5 a0_6 a0_7 a0_8 a0_9 a0_10 a1_0 a1_1 a1_2 a1_3 a1_4 a1_5 a1_6 a1_7 a1_8 a1_9 a1_10 x5_0) =
    F55_l0_T k a0_0 a0_1 a0_2 a0_3 a0_4 a0_5 a0_6 a0_7 a0_8 a0_9 a0_10 a1_0 a1_1 a1_2 a1_3 a1_4 a1_5 a1_6 a1_7 a1_8 a1_9 a1_10 (fun x5_0 => loopG (F55_E k) Try.f55 [1, 1, 0, 1, 0] 0 (kontAt (F55_E k) [1, 1, 0, 1, 0] (bodyOf Try.f55) 0 (endC (F55_E k) Try.f55 (F55_a a0_0 a0_1 a0_2 a0_3 a0_4 a0_5 a0_6 a0_7 a0_8 a0_9 a0_10 a1_0 a1_1 a1_2 a1_3 a1_4 a1_5 a1_6 a1_7 a1_8 a1_9 a1_10) K)) n (F55_s0 a0_0 a0_1 a0_2 a0_3 a0_4 a0_5 a0_6 a0_7 a0_8 a0_9 a0_10 a1_0 a1_1 a1_2 a1_3 a1_4 a1_5 a1_6 a1_7 a1_8 a1_9 a1_10 x5_0)) (fun r => K (F55_r r)) x5_0 := by kernel_rfl
theorem F55_l0_lp {β : Type} (k : Nat) (a0_0 a0_1 a0_2 a0_3 a0_4 : Int) (a0_5 a0_6 a0_7 a0_8 : Bool) (a0_9 : List (den rng)) (a0_10 : List (den (.int .u8))) (a1_0 a1_1 a1_2 a1_3 a1_4 : Int) (a1_5 a1_6 a1_7 a1_8 : Bool) (a1_9 : List (den rng)) (a1_10 : List (den (.int .u8))) (K : A × List (List Leaf) → Option β) (n : Nat) : ∀ (x5_0 : Int), loopG (F55_E k) Try.f55 [1, 1, 0, 1, 0] 0 (kontAt (F55_E k) [1, 1, 0, 1, 0] (bodyOf Try.f55) 0 (endC (F55_E k) Try.f55 (F55_a a0_0 a0_1 a0_2 a0_3 a0_4 a0_5 a0_6 a0_7 a0_8 a0_9 a0_10 a1_0 a1_1 a1_2 a1_3 a1_4 a1_5 a1_6 a1_7 a1_8 a1_9 a1_10) K)) n (F55_s0 a0_0 a0_1 a0_2 a0_3 a0_4 a0_5 a0_6 a0_7 a0_8 a0_9 a0_10 a1_0 a1_1 a1_2 a1_3 a1_4 a1_5 a1_6 a1_7 a1_8 a1_9 a1_10 x5_0) =
    (F55_l0 k a0_0 a0_1 a0_2 a0_3 a0_4 a0_5 a0_6 a0_7 a0_8 a0_9 a0_10 a1_0 a1_1 a1_2 a1_3 a1_4 a1_5 a1_6 a1_7 a1_8 a1_9 a1_10 n x5_0).bind fun r => K (F55_r r) := by
  induction n with
  | zero => intros; rfl
  | succ n ih =>
    intros
    rw [F55_l0_rd, F55_l0]
    simp only [F55_l0_T, bind_cond, Option.bind_assoc, Option.bind_some, Option.bind_none, Option.bind_fun_some, ih]
def F55_T {β : Type} (k : Nat) (a0_0 a0_1 a0_2 a0_3 a0_4 : Int) (a0_5 a0_6 a0_7 a0_8 : Bool) (a0_9 : List (den rng)) (a0_10 : List (den (.int .u8))) (a1_0 a1_1 a1_2 a1_3 a1_4 : Int) (a1_5 a1_6 a1_7 a1_8 : Bool) (a1_9 : List (den rng)) (a1_10 : List (den (.int .u8))) (LP0 : Int → Option β) (RET : Bool → Option β) : Option β := cond (a0_0 != a1_0) (RET false) (cond (a0_1 != a1_1) (RET false) (cond (!(a0_6 == a1_6)) (RET false) (cond (a0_3 != a1_3) (RET false) (cond (a0_4 != a1_4) (RET false) (cond (((a0_9.length : Nat) : Int) != ((a1_9.length : Nat) : Int)) (RET false) (LP0 0))))))
def F55 (k : Nat) (a0_0 a0_1 a0_2 a0_3 a0_4 : Int) (a0_5 a0_6 a0_7 a0_8 : Bool) (a0_9 : List (den rng)) (a0_10 : List (den (.int .u8))) (a1_0 a1_1 a1_2 a1_3 a1_4 : Int) (a1_5 a1_6 a1_7 a1_8 : Bool) (a1_9 : List (den rng)) (a1_10 : List (den (.int .u8))) : Option (Bool) := F55_T k a0_0 a0_1 a0_2 a0_3 a0_4 a0_5 a0_6 a0_7 a0_8 a0_9 a0_10 a1_0 a1_1 a1_2 a1_3 a1_4 a1_5 a1_6 a1_7 a1_8 a1_9 a1_10 (fun x5_0 => F55_l0 k a0_0 a0_1 a0_2 a0_3 a0_4 a0_5 a0_6 a0_7 a0_8 a0_9 a0_10 a1_0 a1_1 a1_2 a1_3 a1_4 a1_5 a1_6 a1_7 a1_8 a1_9 a1_10 k x5_0) some
theorem F55_st {β : Type} (k : Nat) (a0_0 a0_1 a0_2 a0_3 a0_4 : Int) (a0_5 a0_6 a0_7 a0_8 : Bool) (a0_9 : List (den rng)) (a0_10 : List (den (.int .u8))) (a1_0 a1_1 a1_2 a1_3 a1_4 : Int) (a1_5 a1_6 a1_7 a1_8 : Bool) (a1_9 : List (den rng)) (a1_10 : List (den (.int .u8))) (K : A × List (List Leaf) → Option β) : evalF (F55_E k) Try.f55 (F55_a a0_0 a0_1 a0_2 a0_3 a0_4 a0_5 a0_6 a0_7 a0_8 a0_9 a0_10 a1_0 a1_1 a1_2 a1_3 a1_4 a1_5 a1_6 a1_7 a1_8 a1_9 a1_10) K =
    F55_T k a0_0 a0_1 a0_2 a0_3 a0_4 a0_5 a0_6 a0_7 a0_8 a0_9 a0_10 a1_0 a1_1 a1_2 a1_3 a1_4 a1_5 a1_6 a1_7 a1_8 a1_9 a1_10 (fun x5_0 => loopG (F55_E k) Try.f55 [1, 1, 0, 1, 0] 0 (kontAt (F55_E k) [1, 1, 0, 1, 0] (bodyOf Try.f55) 0 (endC (F55_E k) Try.f55 (F55_a a0_0 a0_1 a0_2 a0_3 a0_4 a0_5 a0_6 a0_7 a0_8 a0_9 a0_10 a1_0 a1_1 a1_2 a1_3 a1_4 a1_5 a1_6 a1_7 a1_8 a1_9 a1_10) K)) k (F55_s0 a0_0 a0_1 a0_2 a0_3 a0_4 a0_5 a0_6 a0_7 a0_8 a0_9 a0_10 a1_0 a1_1 a1_2 a1_3 a1_4 a1_5 a1_6 a1_7 a1_8 a1_9 a1_10 x5_0)) (fun r => K (F55_r r)) := by kernel_rfl
theorem F55_ev {β : Type} (k : Nat) (a0_0 a0_1 a0_2 a0_3 a0_4 : Int) (a0_5 a0_6 a0_7 a0_8 : Bool) (a0_9 : List (den rng)) (a0_10 : List (den (.int .u8))) (a1_0 a1_1 a1_2 a1_3 a1_4 : Int) (a1_5 a1_6 a1_7 a1_8 : Bool) (a1_9 : List (den rng)) (a1_10 : List (den (.int .u8))) (K : A × List (List Leaf) → Option β) : evalF (F55_E k) Try.f55 (F55_a a0_0 a0_1 a0_2 a0_3 a0_4 a0_5 a0_6 a0_7 a0_8 a0_9 a0_10 a1_0 a1_1 a1_2 a1_3 a1_4 a1_5 a1_6 a1_7 a1_8 a1_9 a1_10) K = (F55 k a0_0 a0_1 a0_2 a0_3 a0_4 a0_5 a0_6 a0_7 a0_8 a0_9 a0_10 a1_0 a1_1 a1_2 a1_3 a1_4 a1_5 a1_6 a1_7 a1_8 a1_9 a1_10).bind fun r => K (F55_r r) := by
  rw [F55_st, F55]
  simp only [F55_T, bind_cond, Option.bind_assoc, Option.bind_some, Option.bind_none, Option.bind_fun_some, F55_l0_lp]
theorem F55_con (k : Nat) (a0_0 a0_1 a0_2 a0_3 a0_4 : Int) (a0_5 a0_6 a0_7 a0_8 : Bool) (a0_9 : List (den rng)) (a0_10 : List (den (.int .u8))) (a1_0 a1_1 a1_2 a1_3 a1_4 : Int) (a1_5 a1_6 a1_7 a1_8 : Bool) (a1_9 : List (den rng)) (a1_10 : List (den (.int .u8))) : Contract Try.prog 55 (F55_a a0_0 a0_1 a0_2 a0_3 a0_4 a0_5 a0_6 a0_7 a0_8 a0_9 a0_10 a1_0 a1_1 a1_2 a1_3 a1_4 a1_5 a1_6 a1_7 a1_8 a1_9 a1_10) ⟨F55 k a0_0 a0_1 a0_2 a0_3 a0_4 a0_5 a0_6 a0_7 a0_8 a0_9 a0_10 a1_0 a1_1 a1_2 a1_3 a1_4 a1_5 a1_6 a1_7 a1_8 a1_9 a1_10, F55_r⟩ := con_of (envOk .none _ _ _ _) mixed Try.func55 rfl rfl (F55_ev k a0_0 a0_1 a0_2 a0_3 a0_4 a0_5 a0_6 a0_7 a0_8 a0_9 a0_10 a1_0 a1_1 a1_2 a1_3 a1_4 a1_5 a1_6 a1_7 a1_8 a1_9 a1_10 some)
def F55_sh : List AK := [.agg [.l (.int .i64), .l (.int .i64), .l (.int .i64), .l (.int .i64), .l (.int .i64), .l (.bool), .l (.bool), .l (.bool), .l (.bool), .l (.sl .ro rng), .l (.sl .ro (.int .u8))], .agg [.l (.int .i64), .l (.int .i64), .l (.int .i64), .l (.int .i64), .l (.int .i64), .l (.bool), .l (.bool), .l (.bool), .l (.bool), .l (.sl .ro rng), .l (.sl .ro (.int .u8))]]
def F55_p (k : Nat) : List Arg → Option CR := cle F55_sh fun x => ⟨F55 k x.1.1 x.1.2.1 x.1.2.2.1 x.1.2.2.2.1 x.1.2.2.2.2.1 x.1.2.2.2.2.2.1 x.1.2.2.2.2.2.2.1 x.1.2.2.2.2.2.2.2.1 x.1.2.2.2.2.2.2.2.2.1 x.1.2.2.2.2.2.2.2.2.2.1 x.1.2.2.2.2.2.2.2.2.2.2.1 x.2.1.1 x.2.1.2.1 x.2.1.2.2.1 x.2.1.2.2.2.1 x.2.1.2.2.2.2.1 x.2.1.2.2.2.2.2.1 x.2.1.2.2.2.2.2.2.1 x.2.1.2.2.2.2.2.2.2.1 x.2.1.2.2.2.2.2.2.2.2.1 x.2.1.2.2.2.2.2.2.2.2.2.1 x.2.1.2.2.2.2.2.2.2.2.2.2.1, F55_r⟩
theorem F55_q (k : Nat) : ∀ xs cr, F55_p k xs = some cr → Contract Try.prog 55 xs cr := cle_ok fun x => F55_con k _ _ _ _ _ _ _ _ _ _ _ _ _ _ _ _ _ _ _ _ _ _
theorem F55_f : FnOk Try.prog 55 := .of (by kernel_rfl)
/-! 56: loop.example/netstack/spec.SegmentLong -/
abbrev F56_E (k : Nat) : Env := env noTab noHint .own [] k
abbrev F56_a (a0_0 a0_1 a0_2 a0_3 a0_4 : Int) (a0_5 a0_6 a0_7 a0_8 : Bool) (a0_9 : List (den rng)) (a0_10 : List (den (.int .u8))) : List Arg := [.agg [.l (.v (.int .i64 a0_0)), .l (.v (.int .i64 a0_1)), .l (.v (.int .i64 a0_2)), .l (.v (.int .i64 a0_3)), .l (.v (.int .i64 a0_4)), .l (.v (.bool a0_5)), .l (.v (.bool a0_6)), .l (.v (.bool a0_7)), .l (.v (.bool a0_8)), .l (.s .ro rng a0_9), .l (.s .ro (.int .u8) a0_10)]]
def F56_r (r : Int) : A × List (List Leaf) := (.one (.v (.int .i64 r)), [])
def F56_T {β : Type} (k : Nat) (a0_0 a0_1 a0_2 a0_3 a0_4 : Int) (a0_5 a0_6 a0_7 a0_8 : Bool) (a0_9 : List (den rng)) (a0_10 : List (den (.int .u8))) (RET : Int → Option β) : Option β := cond a0_5 (cond a0_7 (RET (IntKind.i64.wrap ((IntKind.i64.wrap (((a0_10.length : Nat) : Int) + 1)) + 1))) (RET (IntKind.i64.wrap (((a0_10.length : Nat) : Int) + 1)))) (cond a0_7 (RET (IntKind.i64.wrap (((a0_10.length : Nat) : Int) + 1))) (RET ((a0_10.length : Nat) : Int)))
def F56 (k : Nat) (a0_0 a0_1 a0_2 a0_3 a0_4 : Int) (a0_5 a0_6 a0_7 a0_8 : Bool) (a0_9 : List (den rng)) (a0_10 : List (den (.int .u8))) : Option (Int) := F56_T k a0_0 a0_1 a0_2 a0_3 a0_4 a0_5 a0_6 a0_7 a0_8 a0_9 a0_10 some
theorem F56_st {β : Type} (k : Nat) (a0_0 a0_1 a0_2 a0_3 a0_4 : Int) (a0_5 a0_6 a0_7 a0_8 : Bool) (a0_9 : List (den rng)) (a0_10 : List (den (.int .u8))) (K : A × List (List Leaf) → Option β) : evalF (F56_E k) Try.f56 (F56_a a0_0 a0_1 a0_2 a0_3 a0_4 a0_5 a0_6 a0_7 a0_8 a0_9 a0_10) K =
    F56_T k a0_0 a0_1 a0_2 a0_3 a0_4 a0_5 a0_6 a0_7 a0_8 a0_9 a0_10 (fun r => K (F56_r r)) := by kernel_rfl
theorem F56_ev {β : Type} (k : Nat) (a0_0 a0_1 a0_2 a0_3 a0_4 : Int) (a0_5 a0_6 a0_7 a0_8 : Bool) (a0_9 : List (den rng)) (a0_10 : List (den (.int .u8))) (K : A × List (List Leaf) → Option β) : evalF (F56_E k) Try.f56 (F56_a a0_0 a0_1 a0_2 a0_3 a0_4 a0_5 a0_6 a0_7 a0_8 a0_9 a0_10) K = (F56 k a0_0 a0_1 a0_2 a0_3 a0_4 a0_5 a0_6 a0_7 a0_8 a0_9 a0_10).bind fun r => K (F56_r r) := by
  rw [F56_st, F56]
  simp only [F56_T, bind_cond, Option.bind_assoc, Option.bind_some, Option.bind_none, Option.bind_fun_some]
theorem F56_con (k : Nat) (a0_0 a0_1 a0_2 a0_3 a0_4 : Int) (a0_5 a0_6 a0_7 a0_8 : Bool) (a0_9 : List (den rng)) (a0_10 : List (den (.int .u8))) : Contract Try.prog 56 (F56_a a0_0 a0_1 a0_2 a0_3 a0_4 a0_5 a0_6 a0_7 a0_8 a0_9 a0_10) ⟨F56 k a0_0 a0_1 a0_2 a0_3 a0_4 a0_5 a0_6 a0_7 a0_8 a0_9 a0_10, F56_r⟩ := con_of (envOk .none _ _ _ _) mixed Try.func56 rfl rfl (F56_ev k a0_0 a0_1 a0_2 a0_3 a0_4 a0_5 a0_6 a0_7 a0_8 a0_9 a0_10 some)
def F56_sh : List AK := [.agg [.l (.int .i64), .l (.int .i64), .l (.int .i64), .l (.int .i64), .l (.int .i64), .l (.bool), .l (.bool), .l (.bool), .l (.bool), .l (.sl .ro rng), .l (.sl .ro (.int .u8))]]
def F56_p (k : Nat) : List Arg → Option CR := cle F56_sh fun x => ⟨F56 k x.1.1 x.1.2.1 x.1.2.2.1 x.1.2.2.2.1 x.1.2.2.2.2.1 x.1.2.2.2.2.2.1 x.1.2.2.2.2.2.2.1 x.1.2.2.2.2.2.2.2.1 x.1.2.2.2.2.2.2.2.2.1 x.1.2.2.2.2.2.2.2.2.2.1 x.1.2.2.2.2.2.2.2.2.2.2.1, F56_r⟩
theorem F56_q (k : Nat) : ∀ xs cr, F56_p k xs = some cr → Contract Try.prog 56 xs cr := cle_ok fun x => F56_con k _ _ _ _ _ _ _ _ _ _ _
theorem F56_f : FnOk Try.prog 56 := .of (by kernel_rfl)
/-! 28: loop.example/netstack/spec.SegmentJoin -/
def F28_t (k : Nat) : Tab := entT 27 (F27_p k) <| entT 55 (F55_p k) <| entT 56 (F56_p k) <| entT 50 (F50_p k) <| entT 29 (F29_p k) <| noTab
abbrev F28_E (k : Nat) : Env := env (F28_t k) noHint .own [] k
abbrev F28_a (a0_0 a0_1 a0_2 a0_3 a0_4 : Int) (a0_5 a0_6 a0_7 a0_8 : Bool) (a0_9 : List (den rng)) (a0_10 : List (den (.int .u8))) (a1_0 a1_1 a1_2 a1_3 a1_4 : Int) (a1_5 a1_6 a1_7 a1_8 : Bool) (a1_9 : List (den rng)) (a1_10 : List (den (.int .u8))) : List Arg := [.agg [.l (.v (.int .i64 a0_0)), .l (.v (.int .i64 a0_1)), .l (.v (.int .i64 a0_2)), .l (.v (.int .i64 a0_3)), .l (.v (.int .i64 a0_4)), .l (.v (.bool a0_5)), .l (.v (.bool a0_6)), .l (.v (.bool a0_7)), .l (.v (.bool a0_8)), .l (.s .ro rng a0_9), .l (.s .ro (.int .u8) a0_10)], .agg [.l (.v (.int .i64 a1_0)), .l (.v (.int .i64 a1_1)), .l (.v (.int .i64 a1_2)), .l (.v (.int .i64 a1_3)), .l (.v (.int .i64 a1_4)), .l (.v (.bool a1_5)), .l (.v (.bool a1_6)), .l (.v (.bool a1_7)), .l (.v (.bool a1_8)), .l (.s .ro rng a1_9), .l (.s .ro (.int .u8) a1_10)]]
def F28_r (r : Int × Int × Int × Int × Int × Bool × Bool × Bool × Bool × List (den rng) × List (den (.int .u8)) × Bool) : A × List (List Leaf) := (.tup [(true, [.v (.int .i64 r.1), .v (.int .i64 r.2.1), .v (.int .i64 r.2.2.1), .v (.int .i64 r.2.2.2.1), .v (.int .i64 r.2.2.2.2.1), .v (.bool r.2.2.2.2.2.1), .v (.bool r.2.2.2.2.2.2.1), .v (.bool r.2.2.2.2.2.2.2.1), .v (.bool r.2.2.2.2.2.2.2.2.1), .s .own rng r.2.2.2.2.2.2.2.2.2.1, .s .own (.int .u8) r.2.2.2.2.2.2.2.2.2.2.1]), (false, [.v (.bool r.2.2.2.2.2.2.2.2.2.2.2)])], [])
def F28_T {β : Type} (k : Nat) (a0_0 a0_1 a0_2 a0_3 a0_4 : Int) (a0_5 a0_6 a0_7 a0_8 : Bool) (a0_9 : List (den rng)) (a0_10 : List (den (.int .u8))) (a1_0 a1_1 a1_2 a1_3 a1_4 : Int) (a1_5 a1_6 a1_7 a1_8 : Bool) (a1_9 : List (den rng)) (a1_10 : List (den (.int .u8))) (RET : (Int × Int × Int × Int × Int × Bool × Bool × Bool × Bool × List (den rng) × List (den (.int .u8)) × Bool) → Option β) : Option β := (F27 k a0_0 a0_1 a0_2 a0_3 a0_4 a0_5 a0_6 a0_7 a0_8 a0_9 a0_10).bind fun b1 => cond (!b1) (RET (0, 0, 0, 0, 0, false, false, false, false, [], [], false)) ((F27 k a1_0 a1_1 a1_2 a1_3 a1_4 a1_5 a1_6 a1_7 a1_8 a1_9 a1_10).bind fun b2 => cond (!b2) (RET (0, 0, 0, 0, 0, false, false, false, false, [], [], false)) ((F55 k a0_0 a0_1 a0_2 a0_3 a0_4 a0_5 a0_6 a0_7 a0_8 a0_9 a0_10 a1_0 a1_1 a1_2 a1_3 a1_4 a1_5 a1_6 a1_7 a1_8 a1_9 a1_10).bind fun b3 => cond (!b3) (RET (0, 0, 0, 0, 0, false, false, false, false, [], [], false)) (cond a0_8 (RET (0, 0, 0, 0, 0, false, false, false, false, [], [], false)) (cond a1_8 (RET (0, 0, 0, 0, 0, false, false, false, false, [], [], false)) (cond (((a0_10.length : Nat) : Int) == 0) (RET (0, 0, 0, 0, 0, false, false, false, false, [], [], false)) (cond (((a1_10.length : Nat) : Int) == 0) (RET (0, 0, 0, 0, 0, false, false, false, false, [], [], false)) (cond a0_7 (RET (0, 0, 0, 0, 0, false, false, false, false, [], [], false)) (cond a1_5 (RET (0, 0, 0, 0, 0, false, false, false, false, [], [], false)) ((F56 k a0_0 a0_1 a0_2 a0_3 a0_4 a0_5 a0_6 a0_7 a0_8 a0_9 a0_10).bind fun b4 => (F50 k (IntKind.i64.wrap (a0_2 + b4))).bind fun b5 => cond (a1_2 != b5) (RET (0, 0, 0, 0, 0, false, false, false, false, [], [], false)) (cond (decide ((IntKind.i64.wrap (((a0_10.length : Nat) : Int) + ((a1_10.length : Nat) : Int))) > 12)) (RET (0, 0, 0, 0, 0, false, false, false, false, [], [], false)) ((F29 k a0_0 a0_1 a0_2 a0_3 a0_4 a0_5 a0_6 a0_7 a0_8 a0_9 a0_10).bind fun b6 => cond (decide ((b6.2.2.2.2.2.2.2.2.2.2.length + a1_10.length) * 1 ≤ 140737488355328)) (RET (b6.1, b6.2.1, b6.2.2.1, b6.2.2.2.1, b6.2.2.2.2.1, b6.2.2.2.2.2.1, b6.2.2.2.2.2.2.1, a1_7, b6.2.2.2.2.2.2.2.2.1, b6.2.2.2.2.2.2.2.2.2.1, b6.2.2.2.2.2.2.2.2.2.2 ++ a1_10, true)) none)))))))))))
def F28 (k : Nat) (a0_0 a0_1 a0_2 a0_3 a0_4 : Int) (a0_5 a0_6 a0_7 a0_8 : Bool) (a0_9 : List (den rng)) (a0_10 : List (den (.int .u8))) (a1_0 a1_1 a1_2 a1_3 a1_4 : Int) (a1_5 a1_6 a1_7 a1_8 : Bool) (a1_9 : List (den rng)) (a1_10 : List (den (.int .u8))) : Option (Int × Int × Int × Int × Int × Bool × Bool × Bool × Bool × List (den rng) × List (den (.int .u8)) × Bool) := F28_T k a0_0 a0_1 a0_2 a0_3 a0_4 a0_5 a0_6 a0_7 a0_8 a0_9 a0_10 a1_0 a1_1 a1_2 a1_3 a1_4 a1_5 a1_6 a1_7 a1_8 a1_9 a1_10 some
theorem F28_st {β : Type} (k : Nat) (a0_0 a0_1 a0_2 a0_3 a0_4 : Int) (a0_5 a0_6 a0_7 a0_8 : Bool) (a0_9 : List (den rng)) (a0_10 : List (den (.int .u8))) (a1_0 a1_1 a1_2 a1_3 a1_4 : Int) (a1_5 a1_6 a1_7 a1_8 : Bool) (a1_9 : List (den rng)) (a1_10 : List (den (.int .u8))) (K : A × List (List Leaf) → Option β) : evalF (F28_E k) Try.f28 (F28_a a0_0 a0_1 a0_2 a0_3 a0_4 a0_5 a0_6 a0_7 a0_8 a0_9 a0_10 a1_0 a1_1 a1_2 a1_3 a1_4 a1_5 a1_6 a1_7 a1_8 a1_9 a1_10) K =
    F28_T k a0_0 a0_1 a0_2 a0_3 a0_4 a0_5 a0_6 a0_7 a0_8 a0_9 a0_10 a1_0 a1_1 a1_2 a1_3 a1_4 a1_5 a1_6 a1_7 a1_8 a1_9 a1_10 (fun r => K (F28_r r)) := by kernel_rfl
theorem F28_ev {β : Type} (k : Nat) (a0_0 a0_1 a0_2 a0_3 a0_4 : Int) (a0_5 a0_6 a0_7 a0_8 : Bool) (a0_9 : List (den rng)) (a0_10 : List (den (.int .u8))) (a1_0 a1_1 a1_2 a1_3 a1_4 : Int) (a1_5 a1_6 a1_7 a1_8 : Bool) (a1_9 : List (den rng)) (a1_10 : List (den (.int .u8))) (K : A × List (List Leaf) → Option β) : evalF (F28_E k) Try.f28 (F28_a a0_0 a0_1 a0_2 a0_3 a0_4 a0_5 a0_6 a0_7 a0_8 a0_9 a0_10 a1_0 a1_1 a1_2 a1_3 a1_4 a1_5 a1_6 a1_7 a1_8 a1_9 a1_10) K = (F28 k a0_0 a0_1 a0_2 a0_3 a0_4 a0_5 a0_6 a0_7 a0_8 a0_9 a0_10 a1_0 a1_1 a1_2 a1_3 a1_4 a1_5 a1_6 a1_7 a1_8 a1_9 a1_10).bind fun r => K (F28_r r) := by
  rw [F28_st, F28]
  simp only [F28_T, bind_cond, Option.bind_assoc, Option.bind_some, Option.bind_none, Option.bind_fun_some]
theorem F28_tOk (k : Nat) : TabFn Try.prog (F28_t k) := .ent (F27_q k) F27_f (.ent (F55_q k) F55_f (.ent (F56_q k) F56_f (.ent (F50_q k) F50_f (.ent (F29_q k) F29_f (.none)))))
theorem F28_con (k : Nat) (a0_0 a0_1 a0_2 a0_3 a0_4 : Int) (a0_5 a0_6 a0_7 a0_8 : Bool) (a0_9 : List (den rng)) (a0_10 : List (den (.int .u8))) (a1_0 a1_1 a1_2 a1_3 a1_4 : Int) (a1_5 a1_6 a1_7 a1_8 : Bool) (a1_9 : List (den rng)) (a1_10 : List (den (.int .u8))) : Contract Try.prog 28 (F28_a a0_0 a0_1 a0_2 a0_3 a0_4 a0_5 a0_6 a0_7 a0_8 a0_9 a0_10 a1_0 a1_1 a1_2 a1_3 a1_4 a1_5 a1_6 a1_7 a1_8 a1_9 a1_10) ⟨F28 k a0_0 a0_1 a0_2 a0_3 a0_4 a0_5 a0_6 a0_7 a0_8 a0_9 a0_10 a1_0 a1_1 a1_2 a1_3 a1_4 a1_5 a1_6 a1_7 a1_8 a1_9 a1_10, F28_r⟩ := con_of (envOk (F28_tOk k) _ _ _ _) mixed Try.func28 rfl rfl (F28_ev k a0_0 a0_1 a0_2 a0_3 a0_4 a0_5 a0_6 a0_7 a0_8 a0_9 a0_10 a1_0 a1_1 a1_2 a1_3 a1_4 a1_5 a1_6 a1_7 a1_8 a1_9 a1_10 some)
def F28_sh : List AK := [.agg [.l (.int .i64), .l (.int .i64), .l (.int .i64), .l (.int .i64), .l (.int .i64), .l (.bool), .l (.bool), .l (.bool), .l (.bool), .l (.sl .ro rng), .l (.sl .ro (.int .u8))], .agg [.l (.int .i64), .l (.int .i64), .l (.int .i64), .l (.int .i64), .l (.int .i64), .l (.bool), .l (.bool), .l (.bool), .l (.bool), .l (.sl .ro rng), .l (.sl .ro (.int .u8))]]
def F28_p (k : Nat) : List Arg → Option CR := cle F28_sh fun x => ⟨F28 k x.1.1 x.1.2.1 x.1.2.2.1 x.1.2.2.2.1 x.1.2.2.2.2.1 x.1.2.2.2.2.2.1 x.1.2.2.2.2.2.2.1 x.1.2.2.2.2.2.2.2.1 x.1.2.2.2.2.2.2.2.2.1 x.1.2.2.2.2.2.2.2.2.2.1 x.1.2.2.2.2.2.2.2.2.2.2.1 x.2.1.1 x.2.1.2.1 x.2.1.2.2.1 x.2.1.2.2.2.1 x.2.1.2.2.2.2.1 x.2.1.2.2.2.2.2.1 x.2.1.2.2.2.2.2.2.1 x.2.1.2.2.2.2.2.2.2.1 x.2.1.2.2.2.2.2.2.2.2.1 x.2.1.2.2.2.2.2.2.2.2.2.1 x.2.1.2.2.2.2.2.2.2.2.2.2.1, F28_r⟩
theorem F28_q (k : Nat) : ∀ xs cr, F28_p k xs = some cr → Contract Try.prog 28 xs cr := cle_ok fun x => F28_con k _ _ _ _ _ _ _ _ _ _ _ _ _ _ _ _ _ _ _ _ _ _
theorem F28_f : FnOk Try.prog 28 := .of (by kernel_rfl)
/-! 8: loop.example/netstack/spec.SegmentsJoined -/
def F8_h : Nat → Hint
  | 0 => ⟨[(0, .plain), (3, .plain), (4, .plain)], [(10000, .plain)]⟩
  | 2 => ⟨[(0, .plain), (3, .own .own seg []), (5, .plain)], []⟩
  | _ => ⟨[], []⟩
def F8_t (k : Nat) : Tab := entT 27 (F27_p k) <| entT 28 (F28_p k) <| entT 29 (F29_p k) <| noTab
abbrev F8_E (k : Nat) : Env := env (F8_t k) F8_h .own [] k
abbrev F8_a (a0 : List (den seg)) : List Arg := [.one (.l (.s .ro seg a0))]
def F8_r (r : List (den seg)) : A × List (List Leaf) := (.one (.s .own seg r), [])
def F8_s2 (a0 : List (den seg)) (x5_2 : Int) (m3900_2 : List (den seg)) : St := ⟨(.one (.s .ro seg a0)) :: (.one .d) :: (.one .d) :: (.one (.a (.cell 3900) 0 0 none)) :: (.one .d) :: (.one (.v (.int .i64 x5_2))) :: dz 57 [], [(3900, ⟨.s .own seg m3900_2, 0, 0⟩)]⟩
def F8_l2_j1 {β : Type} (k : Nat) (a0 : List (den seg)) (NX : Int → List (den seg) → Option β) (RET : List (den seg) → Option β) (x5_2 : Int) (m3900_2 : List (den seg)) : Option β := cond (decide (0 ≤ x5_2)) (cond (decide (x5_2 < ((a0.length : Nat) : Int))) ((F29 k ((atI a0 x5_2).1) (((atI a0 x5_2).2).1) ((((atI a0 x5_2).2).2).1) (((((atI a0 x5_2).2).2).2).1) ((((((atI a0 x5_2).2).2).2).2).1) (((((((atI a0 x5_2).2).2).2).2).2).1) ((((((((atI a0 x5_2).2).2).2).2).2).2).1) (((((((((atI a0 x5_2).2).2).2).2).2).2).2).1) ((((((((((atI a0 x5_2).2).2).2).2).2).2).2).2).1) (((((((((((atI a0 x5_2).2).2).2).2).2).2).2).2).2).1) (((((((((((atI a0 x5_2).2).2).2).2).2).2).2).2).2).2)).bind fun b4 => cond (decide ((m3900_2.length + [b4].length) * 96 ≤ 140737488355328)) (NX (IntKind.i64.wrap (x5_2 + 1)) (m3900_2 ++ [b4])) none) none) none
def F8_l2_T {β : Type} (k : Nat) (a0 : List (den seg)) (NX : Int → List (den seg) → Option β) (RET : List (den seg) → Option β) (x5_2 : Int) (m3900_2 : List (den seg)) : Option β := cond (decide (x5_2 < ((a0.length : Nat) : Int))) (cond (decide ((IntKind.i64.wrap (((m3900_2.length : Nat) : Int) - 1)) ≥ 0)) (cond (decide (0 ≤ (IntKind.i64.wrap (((m3900_2.length : Nat) : Int) - 1)))) (cond (decide ((IntKind.i64.wrap (((m3900_2.length : Nat) : Int) - 1)) < ((m3900_2.length : Nat) : Int))) (cond (decide (0 ≤ x5_2)) (cond (decide (x5_2 < ((a0.length : Nat) : Int))) ((F28 k ((atI m3900_2 (IntKind.i64.wrap (((m3900_2.length : Nat) : Int) - 1))).1) (((atI m3900_2 (IntKind.i64.wrap (((m3900_2.length : Nat) : Int) - 1))).2).1) ((((atI m3900_2 (IntKind.i64.wrap (((m3900_2.length : Nat) : Int) - 1))).2).2).1) (((((atI m3900_2 (IntKind.i64.wrap (((m3900_2.length : Nat) : Int) - 1))).2).2).2).1) ((((((atI m3900_2 (IntKind.i64.wrap (((m3900_2.length : Nat) : Int) - 1))).2).2).2).2).1) (((((((atI m3900_2 (IntKind.i64.wrap (((m3900_2.length : Nat) : Int) - 1))).2).2).2).2).2).1) ((((((((atI m3900_2 (IntKind.i64.wrap (((m3900_2.length : Nat) : Int) - 1))).2).2).2).2).2).2).1) (((((((((atI m3900_2 (IntKind.i64.wrap (((m3900_2.length : Nat) : Int) - 1))).2).2).2).2).2).2).2).1) ((((((((((atI m3900_2 (IntKind.i64.wrap (((m3900_2.length : Nat) : Int) - 1))).2).2).2).2).2).2).2).2).1) (((((((((((atI m3900_2 (IntKind.i64.wrap (((m3900_2.length : Nat) : Int) - 1))).2).2).2).2).2).2).2).2).2).1) (((((((((((atI m3900_2 (IntKind.i64.wrap (((m3900_2.length : Nat) : Int) - 1))).2).2).2).2).2).2).2).2).2).2) ((atI a0 x5_2).1) (((atI a0 x5_2).2).1) ((((atI a0 x5_2).2).2).1) (((((atI a0 x5_2).2).2).2).1) ((((((atI a0 x5_2).2).2).2).2).1) (((((((atI a0 x5_2).2).2).2).2).2).1) ((((((((atI a0 x5_2).2).2).2).2).2).2).1) (((((((((atI a0 x5_2).2).2).2).2).2).2).2).1) ((((((((((atI a0 x5_2).2).2).2).2).2).2).2).2).1) (((((((((((atI a0 x5_2).2).2).2).2).2).2).2).2).2).1) (((((((((((atI a0 x5_2).2).2).2).2).2).2).2).2).2).2)).bind fun b2 => cond b2.2.2.2.2.2.2.2.2.2.2.2 (cond (decide (0 ≤ (IntKind.i64.wrap (((m3900_2.length : Nat) : Int) - 1)))) (cond (decide ((IntKind.i64.wrap (((m3900_2.length : Nat) : Int) - 1)) < ((m3900_2.length : Nat) : Int))) ((sto (m3900_2.set ((IntKind.i64.wrap (((m3900_2.length : Nat) : Int) - 1)).toNat) (b2.1, b2.2.1, b2.2.2.1, b2.2.2.2.1, b2.2.2.2.2.1, b2.2.2.2.2.2.1, b2.2.2.2.2.2.2.1, b2.2.2.2.2.2.2.2.1, b2.2.2.2.2.2.2.2.2.1, b2.2.2.2.2.2.2.2.2.2.1, b2.2.2.2.2.2.2.2.2.2.2.1))).bind fun b3 => NX (IntKind.i64.wrap (x5_2 + 1)) b3) none) none) (F8_l2_j1 k a0 NX RET x5_2 m3900_2)) none) none) none) none) (F8_l2_j1 k a0 NX RET x5_2 m3900_2)) (RET m3900_2)
def F8_l2 (k : Nat) (a0 : List (den seg)) : Nat → Int → List (den seg) → Option (List (den seg))
  | 0, _, _ => none
  | n + 1, x5_2, m3900_2 => F8_l2_T k a0 (fun x5_2 m3900_2 => F8_l2 k a0 n x5_2 m3900_2) some x5_2 m3900_2
theorem F8_l2_rd {β : Type} (k n : Nat) (a0 : List (den seg)) (x5_2 : Int) (m3900_2 : List (den seg)) (K : A × List (List Leaf) → Option β) :
    loopG (F8_E k) Try.f8 [1, 1, 1, 0, 1, 0] 2 (kontAt (F8_E k) [1, 1, 1, 0, 1, 0] (bodyOf Try.f8) 0 (endC (F8_E k) Try.f8 (F8_a a0) K)) (n + 1) (F8_s2 a0 x5_2 m3900_2) =
    F8_l2_T k a0 (fun x5_2 m3900_2 => loopG (F8_E k) Try.f8 [1, 1, 1, 0, 1, 0] 2 (kontAt (F8_E k) [1, 1, 1, 0, 1, 0] (bodyOf Try.f8) 0 (endC (F8_E k) Try.f8 (F8_a a0) K)) n (F8_s2 a0 x5_2 m3900_2)) (fun r => K (F8_r r)) x5_2 m3900_2 := by kernel_rfl
theorem F8_l2_lp {β : Type} (k : Nat) (a0 : List (den seg)) (K : A × List (List Leaf) → Option β) (n : Nat) : ∀ (x5_2 : Int) (m3900_2 : List (den seg)), loopG (F8_E k) Try.f8 [1, 1, 1, 0, 1, 0] 2 (kontAt (F8_E k) [1, 1, 1, 0, 1, 0] (bodyOf Try.f8) 0 (endC (F8_E k) Try.f8 (F8_a a0) K)) n (F8_s2 a0 x5_2 m3900_2) =
    (F8_l2 k a0 n x5_2 m3900_2).bind fun r => K (F8_r r) := by
  induction n with
  | zero => intros; rfl
  | succ n ih =>
    intros
    rw [F8_l2_rd, F8_l2]
    simp only [F8_l2_T, F8_l2_j1, bind_cond, Option.bind_assoc, Option.bind_some, Option.bind_none, Option.bind_fun_some, ih]
def F8_s0 (a0 : List (den seg)) (x4_0 : Int) : St := ⟨(.one (.s .ro seg a0)) :: (.one .d) :: (.one .d) :: (.one (.a (.cell 10000) 0 0 none)) :: (.one (.v (.int .i64 x4_0))) :: dz 58 [], [(10000, ⟨.s .own seg [], 0, 0⟩)]⟩
def F8_l0_T {β : Type} (k : Nat) (a0 : List (den seg)) (NX : Int → Option β) (LP2 : Int → List (den seg) → Option β) (RET : List (den seg) → Option β) (x4_0 : Int) : Option β := cond (decide (x4_0 < ((a0.length : Nat) : Int))) (cond (decide (0 ≤ x4_0)) (cond (decide (x4_0 < ((a0.length : Nat) : Int))) ((F27 k ((atI a0 x4_0).1) (((atI a0 x4_0).2).1) ((((atI a0 x4_0).2).2).1) (((((atI a0 x4_0).2).2).2).1) ((((((atI a0 x4_0).2).2).2).2).1) (((((((atI a0 x4_0).2).2).2).2).2).1) ((((((((atI a0 x4_0).2).2).2).2).2).2).1) (((((((((atI a0 x4_0).2).2).2).2).2).2).2).1) ((((((((((atI a0 x4_0).2).2).2).2).2).2).2).2).1) (((((((((((atI a0 x4_0).2).2).2).2).2).2).2).2).2).1) (((((((((((atI a0 x4_0).2).2).2).2).2).2).2).2).2).2)).bind fun b1 => cond (!b1) (RET []) (NX (IntKind.i64.wrap (x4_0 + 1)))) none) none) (LP2 0 [])
def F8_l0 (k : Nat) (a0 : List (den seg)) : Nat → Int → Option (List (den seg))
  | 0, _ => none
  | n + 1, x4_0 => F8_l0_T k a0 (fun x4_0 => F8_l0 k a0 n x4_0) (fun x5_2 m3900_2 => F8_l2 k a0 k x5_2 m3900_2) some x4_0
theorem F8_l0_rd {β : Type} (k n : Nat) (a0 : List (den seg)) (x4_0 : Int) (K : A × List (List Leaf) → Option β) :
    loopG (F8_E k) Try.f8 [1, 1, 0, 1, 0] 0 (kontAt (F8_E k) [1, 1, 0, 1, 0] (bodyOf Try.f8) 0 (endC (F8_E k) Try.f8 (F8_a a0) K)) (n + 1) (F8_s0 a0 x4_0) =
    F8_l0_T k a0 (fun x4_0 => loopG (F8_E k) Try.f8 [1, 1, 0, 1, 0] 0 (kontAt (F8_E k) [1, 1, 0, 1, 0] (bodyOf Try.f8) 0 (endC (F8_E k) Try.f8 (F8_a a0) K)) n (F8_s0 a0 x4_0)) (fun x5_2 m3900_2 => loopG (F8_E k) Try.f8 [1, 1, 1, 0, 1, 0] 2 (kontAt (F8_E k) [1, 1, 1, 0, 1, 0] (bodyOf Try.f8) 0 (endC (F8_E k) Try.f8 (F8_a a0) K)) k (F8_s2 a0 x5_2 m3900_2)) (fun r => K (F8_r r)) x4_0 := by kernel_rfl
theorem F8_l0_lp {β : Type} (k : Nat) (a0 : List (den seg)) (K : A × List (List Leaf) → Option β) (n : Nat) : ∀ (x4_0 : Int), loopG (F8_E k) Try.f8 [1, 1, 0, 1, 0] 0 (kontAt (F8_E k) [1, 1, 0, 1, 0] (bodyOf Try.f8) 0 (endC (F8_E k) Try.f8 (F8_a a0) K)) n (F8_s0 a0 x4_0) =
    (F8_l0 k a0 n x4_0).bind fun r => K (F8_r r) := by
  induction n with
  | zero => intros; rfl
  | succ n ih =>
    intros
    rw [F8_l0_rd, F8_l0]
    simp only [F8_l0_T, bind_cond, Option.bind_assoc, Option.bind_some, Option.bind_none, Option.bind_fun_some, F8_l2_lp, ih]
def F8_T {β : Type} (k : Nat) (a0 : List (den seg)) (LP0 : Int → Option β) : Option β := LP0 0
def F8 (k : Nat) (a0 : List (den seg)) : Option (List (den seg)) := F8_T k a0 (fun x4_0 => F8_l0 k a0 k x4_0)
theorem F8_st {β : Type} (k : Nat) (a0 : List (den seg)) (K : A × List (List Leaf) → Option β) : evalF (F8_E k) Try.f8 (F8_a a0) K =
    F8_T k a0 (fun x4_0 => loopG (F8_E k) Try.f8 [1, 1, 0, 1, 0] 0 (kontAt (F8_E k) [1, 1, 0, 1, 0] (bodyOf Try.f8) 0 (endC (F8_E k) Try.f8 (F8_a a0) K)) k (F8_s0 a0 x4_0)) := by kernel_rfl
theorem F8_ev {β : Type} (k : Nat) (a0 : List (den seg)) (K : A × List (List Leaf) → Option β) : evalF (F8_E k) Try.f8 (F8_a a0) K = (F8 k a0).bind fun r => K (F8_r r) := by
  rw [F8_st, F8]
  simp only [F8_T, bind_cond, Option.bind_assoc, Option.bind_some, Option.bind_none, Option.bind_fun_some, F8_l0_lp]
theorem F8_tOk (k : Nat) : TabFn Try.prog (F8_t k) := .ent (F27_q k) F27_f (.ent (F28_q k) F28_f (.ent (F29_q k) F29_f (.none)))
theorem F8_con (k : Nat) (a0 : List (den seg)) : Contract Try.prog 8 (F8_a a0) ⟨F8 k a0, F8_r⟩ := con_of (envOk (F8_tOk k) _ _ _ _) mixed Try.func8 rfl rfl (F8_ev k a0 some)
def F8_sh : List AK := [.one (.l (.sl .ro seg))]
def F8_p (k : Nat) : List Arg → Option CR := cle F8_sh fun x => ⟨F8 k x.1, F8_r⟩
theorem F8_q (k : Nat) : ∀ xs cr, F8_p k xs = some cr → Contract Try.prog 8 xs cr := cle_ok fun x => F8_con k _
theorem F8_f : FnOk Try.prog 8 := .of (by kernel_rfl)
/-! 53: loop.example/netstack/laws.sameRanges -/
def F53_h : Nat → Hint
  | 0 => ⟨[(0, .plain), (1, .plain), (5, .plain)], []⟩
  | _ => ⟨[], []⟩
abbrev F53_E (k : Nat) : Env := env noTab F53_h .own [] k
abbrev F53_a (a0 a1 : List (den rng)) : List Arg := [.one (.l (.s .ro rng a0)), .one (.l (.s .ro rng a1))]
def F53_r (r : Bool) : A × List (List Leaf) := (.one (.v (.bool r)), [])
def F53_s0 (a0 a1 : List (den rng)) (x5_0 : Int) : St := ⟨(.one (.s .ro rng a0)) :: (.one (.s .ro rng a1)) :: dz 3 ((.one (.v (.int .i64 x5_0))) :: dz 20 []), []⟩
def F53_l0_T {β : Type} (k : Nat) (a0 a1 : List (den rng)) (NX : Int → Option β) (RET : Bool → Option β) (x5_0 : Int) : Option β := cond (decide (x5_0 < ((a0.length : Nat) : Int))) (cond (decide (0 ≤ x5_0)) (cond (decide (x5_0 < ((a0.length : Nat) : Int))) (cond (decide (0 ≤ x5_0)) (cond (decide (x5_0 < ((a1.length : Nat) : Int))) (cond (!(eqD rng (atI a0 x5_0) (atI a1 x5_0))) (RET false) (NX (IntKind.i64.wrap (x5_0 + 1)))) none) none) none) none) (RET true)
def F53_l0 (k : Nat) (a0 a1 : List (den rng)) : Nat → Int → Option (Bool)
  | 0, _ => none
  | n + 1, x5_0 => F53_l0_T k a0 a1 (fun x5_0 => F53_l0 k a0 a1 n x5_0) some x5_0
theorem F53_l0_rd {β : Type} (k n : Nat) (a0 a1 : List (den rng)) (x5_0 : Int) (K : A × List (List Leaf) → Option β) :
    loopG (F53_E k) Try.f53 [1, 1, 0, 1, 0] 0 (kontAt (F53_E k) [1, 1, 0, 1, 0] (bodyOf Try.f53) 0 (endC (F53_E k) Try.f53 (F53_a a0 a1) K)) (n + 1) (F53_s0 a0 a1 x5_0) =
    F53_l0_T k a0 a1 (fun x5_0 => loopG (F53_E k) Try.f53 [1, 1, 0, 1, 0] 0 (kontAt (F53_E k) [1, 1, 0, 1, 0] (bodyOf Try.f53) 0 (endC (F53_E k) Try.f53 (F53_a a0 a1) K)) n (F53_s0 a0 a1 x5_0)) (fun r => K (F53_r r)) x5_0 := by kernel_rfl
theorem F53_l0_lp {β : Type} (k : Nat) (a0 a1 : List (den rng)) (K : A × List (List Leaf) → Option β) (n : Nat) : ∀ (x5_0 : Int), loopG (F53_E k) Try.f53 [1, 1, 0, 1, 0] 0 (kontAt (F53_E k) [1, 1, 0, 1, 0] (bodyOf Try.f53) 0 (endC (F53_E k) Try.f53 (F53_a a0 a1) K)) n (F53_s0 a0 a1 x5_0) =
    (F53_l0 k a0 a1 n x5_0).bind fun r => K (F53_r r) := by
  induction n with
  | zero => intros; rfl
  | succ n ih =>
    intros
    rw [F53_l0_rd, F53_l0]
    simp only [F53_l0_T, bind_cond, Option.bind_assoc, Option.bind_some, Option.bind_none, Option.bind_fun_some, ih]
def F53_T {β : Type} (k : Nat) (a0 a1 : List (den rng)) (LP0 : Int → Option β) (RET : Bool → Option β) : Option β := cond (((a0.length : Nat) : Int) != ((a1.length : Nat) : Int)) (RET false) (LP0 0)
def F53 (k : Nat) (a0 a1 : List (den rng)) : Option (Bool) := F53_T k a0 a1 (fun x5_0 => F53_l0 k a0 a1 k x5_0) some
theorem F53_st {β : Type} (k : Nat) (a0 a1 : List (den rng)) (K : A × List (List Leaf) → Option β) : evalF (F53_E k) Try.f53 (F53_a a0 a1) K =
    F53_T k a0 a1 (fun x5_0 => loopG (F53_E k) Try.f53 [1, 1, 0, 1, 0] 0 (kontAt (F53_E k) [1, 1, 0, 1, 0] (bodyOf Try.f53) 0 (endC (F53_E k) Try.f53 (F53_a a0 a1) K)) k (F53_s0 a0 a1 x5_0)) (fun r => K (F53_r r)) := by kernel_rfl
theorem F53_ev {β : Type} (k : Nat) (a0 a1 : List (den rng)) (K : A × List (List Leaf) → Option β) : evalF (F53_E k) Try.f53 (F53_a a0 a1) K = (F53 k a0 a1).bind fun r => K (F53_r r) := by
  rw [F53_st, F53]
  simp only [F53_T, bind_cond, Option.bind_assoc, Option.bind_some, Option.bind_none, Option.bind_fun_some, F53_l0_lp]
theorem F53_con (k : Nat) (a0 a1 : List (den rng)) : Contract Try.prog 53 (F53_a a0 a1) ⟨F53 k a0 a1, F53_r⟩ := con_of (envOk .none _ _ _ _) mixed Try.func53 rfl rfl (F53_ev k a0 a1 some)
def F53_sh : List AK := [.one (.l (.sl .ro rng)), .one (.l (.sl .ro rng))]
def F53_p (k : Nat) : List Arg → Option CR := cle F53_sh fun x => ⟨F53 k x.1 x.2.1, F53_r⟩
theorem F53_q (k : Nat) : ∀ xs cr, F53_p k xs = some cr → Contract Try.prog 53 xs cr := cle_ok fun x => F53_con k _ _
theorem F53_f : FnOk Try.prog 53 := .of (by kernel_rfl)
/-! 54: loop.example/netstack/laws.sameBytes -/
abbrev F54_E (k : Nat) : Env := env noTab noHint .own [] k
abbrev F54_a (a0 a1 : List (den (.int .u8))) : List Arg := [.one (.l (.s .ro (.int .u8) a0)), .one (.l (.s .ro (.int .u8) a1))]
def F54_r (r : Bool) : A × List (List Leaf) := (.one (.v (.bool r)), [])
def F54 (k : Nat) (a0 a1 : List (den (.int .u8))) : Option (Bool) := some ((strOf a0).toList == (strOf a1).toList)
theorem F54_st {β : Type} (k : Nat) (a0 a1 : List (den (.int .u8))) (K : A × List (List Leaf) → Option β) : evalF (F54_E k) Try.f54 (F54_a a0 a1) K =
    K (.one (.v (.bool ((strOf a0).toList == (strOf a1).toList))), []) := by kernel_rfl
theorem F54_ev {β : Type} (k : Nat) (a0 a1 : List (den (.int .u8))) (K : A × List (List Leaf) → Option β) : evalF (F54_E k) Try.f54 (F54_a a0 a1) K = (F54 k a0 a1).bind fun r => K (F54_r r) := by
  rw [F54_st, F54]
  simp only [F54_r, bind_cond, Option.bind_assoc, Option.bind_some, Option.bind_none, Option.bind_fun_some]
theorem F54_con (k : Nat) (a0 a1 : List (den (.int .u8))) : Contract Try.prog 54 (F54_a a0 a1) ⟨F54 k a0 a1, F54_r⟩ := con_of (envOk .none _ _ _ _) mixed Try.func54 rfl rfl (F54_ev k a0 a1 some)
def F54_sh : List AK := [.one (.l (.sl .ro (.int .u8))), .one (.l (.sl .ro (.int .u8)))]
def F54_p (k : Nat) : List Arg → Option CR := cle F54_sh fun x => ⟨F54 k x.1 x.2.1, F54_r⟩
theorem F54_q (k : Nat) : ∀ xs cr, F54_p k xs = some cr → Contract Try.prog 54 xs cr := cle_ok fun x => F54_con k _ _
theorem F54_f : FnOk Try.prog 54 := .of (by kernel_rfl)
/-! 26: loop.example/netstack/laws.sameSegment -/
def F26_t (k : Nat) : Tab := entT 53 (F53_p k) <| entT 54 (F54_p k) <| noTab
abbrev F26_E (k : Nat) : Env := env (F26_t k) noHint .own [] k
abbrev F26_a (a0_0 a0_1 a0_2 a0_3 a0_4 : Int) (a0_5 a0_6 a0_7 a0_8 : Bool) (a0_9 : List (den rng)) (a0_10 : List (den (.int .u8))) (a1_0 a1_1 a1_2 a1_3 a1_4 : Int) (a1_5 a1_6 a1_7 a1_8 : Bool) (a1_9 : List (den rng)) (a1_10 : List (den (.int .u8))) : List Arg := [.agg [.l (.v (.int .i64 a0_0)), .l (.v (.int .i64 a0_1)), .l (.v (.int .i64 a0_2)), .l (.v (.int .i64 a0_3)), .l (.v (.int .i64 a0_4)), .l (.v (.bool a0_5)), .l (.v (.bool a0_6)), .l (.v (.bool a0_7)), .l (.v (.bool a0_8)), .l (.s .ro rng a0_9), .l (.s .ro (.int .u8) a0_10)], .agg [.l (.v (.int .i64 a1_0)), .l (.v (.int .i64 a1_1)), .l (.v (.int .i64 a1_2)), .l (.v (.int .i64 a1_3)), .l (.v (.int .i64 a1_4)), .l (.v (.bool a1_5)), .l (.v (.bool a1_6)), .l (.v (.bool a1_7)), .l (.v (.bool a1_8)), .l (.s .ro rng a1_9), .l (.s .ro (.int .u8) a1_10)]]
def F26_r (r : Bool) : A × List (List Leaf) := (.one (.v (.bool r)), [])
def F26_T {β : Type} (k : Nat) (a0_0 a0_1 a0_2 a0_3 a0_4 : Int) (a0_5 a0_6 a0_7 a0_8 : Bool) (a0_9 : List (den rng)) (a0_10 : List (den (.int .u8))) (a1_0 a1_1 a1_2 a1_3 a1_4 : Int) (a1_5 a1_6 a1_7 a1_8 : Bool) (a1_9 : List (den rng)) (a1_10 : List (den (.int .u8))) (RET : Bool → Option β) : Option β := cond (a0_0 == a1_0) (cond (a0_1 == a1_1) (cond (a0_2 == a1_2) (cond (a0_3 == a1_3) (cond (a0_4 == a1_4) (cond (a0_5 == a1_5) (cond (a0_6 == a1_6) (cond (a0_7 == a1_7) (cond (a0_8 == a1_8) ((F53 k a0_9 a1_9).bind fun b1 => cond b1 ((F54 k a0_10 a1_10).bind fun b2 => RET b2) (RET false)) (RET false)) (RET false)) (RET false)) (RET false)) (RET false)) (RET false)) (RET false)) (RET false)) (RET false)
def F26 (k : Nat) (a0_0 a0_1 a0_2 a0_3 a0_4 : Int) (a0_5 a0_6 a0_7 a0_8 : Bool) (a0_9 : List (den rng)) (a0_10 : List (den (.int .u8))) (a1_0 a1_1 a1_2 a1_3 a1_4 : Int) (a1_5 a1_6 a1_7 a1_8 : Bool) (a1_9 : List (den rng)) (a1_10 : List (den (.int .u8))) : Option (Bool) := F26_T k a0_0 a0_1 a0_2 a0_3 a0_4 a0_5 a0_6 a0_7 a0_8 a0_9 a0_10 a1_0 a1_1 a1_2 a1_3 a1_4 a1_5 a1_6 a1_7 a1_8 a1_9 a1_10 some
theorem F26_st {β : Type} (k : Nat) (a0_0 a0_1 a0_2 a0_3 a0_4 : Int) (a0_5 a0_6 a0_7 a0_8 : Bool) (a0_9 : List (den rng)) (a0_10 : List (den (.int .u8))) (a1_0 a1_1 a1_2 a1_3 a1_4 : Int) (a1_5 a1_6 a1_7 a1_8 : Bool) (a1_9 : List (den rng)) (a1_10 : List (den (.int .u8))) (K : A × List (List Leaf) → Option β) : evalF (F26_E k) Try.f26 (F26_a a0_0 a0_1 a0_2 a0_3 a0_4 a0_5 a0_6 a0_7 a0_8 a0_9 a0_10 a1_0 a1_1 a1_2 a1_3 a1_4 a1_5 a1_6 a1_7 a1_8 a1_9 a1_10) K =
    F26_T k a0_0 a0_1 a0_2 a0_3 a0_4 a0_5 a0_6 a0_7 a0_8 a0_9 a0_10 a1_0 a1_1 a1_2 a1_3 a1_4 a1_5 a1_6 a1_7 a1_8 a1_9 a1_10 (fun r => K (F26_r r)) := by kernel_rfl
theorem F26_ev {β : Type} (k : Nat) (a0_0 a0_1 a0_2 a0_3 a0_4 : Int) (a0_5 a0_6 a0_7 a0_8 : Bool) (a0_9 : List (den rng)) (a0_10 : List (den (.int .u8))) (a1_0 a1_1 a1_2 a1_3 a1_4 : Int) (a1_5 a1_6 a1_7 a1_8 : Bool) (a1_9 : List (den rng)) (a1_10 : List (den (.int .u8))) (K : A × List (List Leaf) → Option β) : evalF (F26_E k) Try.f26 (F26_a a0_0 a0_1 a0_2 a0_3 a0_4 a0_5 a0_6 a0_7 a0_8 a0_9 a0_10 a1_0 a1_1 a1_2 a1_3 a1_4 a1_5 a1_6 a1_7 a1_8 a1_9 a1_10) K = (F26 k a0_0 a0_1 a0_2 a0_3 a0_4 a0_5 a0_6 a0_7 a0_8 a0_9 a0_10 a1_0 a1_1 a1_2 a1_3 a1_4 a1_5 a1_6 a1_7 a1_8 a1_9 a1_10).bind fun r => K (F26_r r) := by
  rw [F26_st, F26]
  simp only [F26_T, bind_cond, Option.bind_assoc, Option.bind_some, Option.bind_none, Option.bind_fun_some]
theorem F26_tOk (k : Nat) : TabFn Try.prog (F26_t k) := .ent (F53_q k) F53_f (.ent (F54_q k) F54_f (.none))
theorem F26_con (k : Nat) (a0_0 a0_1 a0_2 a0_3 a0_4 : Int) (a0_5 a0_6 a0_7 a0_8 : Bool) (a0_9 : List (den rng)) (a0_10 : List (den (.int .u8))) (a1_0 a1_1 a1_2 a1_3 a1_4 : Int) (a1_5 a1_6 a1_7 a1_8 : Bool) (a1_9 : List (den rng)) (a1_10 : List (den (.int .u8))) : Contract Try.prog 26 (F26_a a0_0 a0_1 a0_2 a0_3 a0_4 a0_5 a0_6 a0_7 a0_8 a0_9 a0_10 a1_0 a1_1 a1_2 a1_3 a1_4 a1_5 a1_6 a1_7 a1_8 a1_9 a1_10) ⟨F26 k a0_0 a0_1 a0_2 a0_3 a0_4 a0_5 a0_6 a0_7 a0_8 a0_9 a0_10 a1_0 a1_1 a1_2 a1_3 a1_4 a1_5 a1_6 a1_7 a1_8 a1_9 a1_10, F26_r⟩ := con_of (envOk (F26_tOk k) _ _ _ _) mixed Try.func26 rfl rfl (F26_ev k a0_0 a0_1 a0_2 a0_3 a0_4 a0_5 a0_6 a0_7 a0_8 a0_9 a0_10 a1_0 a1_1 a1_2 a1_3 a1_4 a1_5 a1_6 a1_7 a1_8 a1_9 a1_10 some)
def F26_sh : List AK := [.agg [.l (.int .i64), .l (.int .i64), .l (.int .i64), .l (.int .i64), .l (.int .i64), .l (.bool), .l (.bool), .l (.bool), .l (.bool), .l (.sl .ro rng), .l (.sl .ro (.int .u8))], .agg [.l (.int .i64), .l (.int .i64), .l (.int .i64), .l (.int .i64), .l (.int .i64), .l (.bool), .l (.bool), .l (.bool), .l (.bool), .l (.sl .ro rng), .l (.sl .ro (.int .u8))]]
def F26_p (k : Nat) : List Arg → Option CR := cle F26_sh fun x => ⟨F26 k x.1.1 x.1.2.1 x.1.2.2.1 x.1.2.2.2.1 x.1.2.2.2.2.1 x.1.2.2.2.2.2.1 x.1.2.2.2.2.2.2.1 x.1.2.2.2.2.2.2.2.1 x.1.2.2.2.2.2.2.2.2.1 x.1.2.2.2.2.2.2.2.2.2.1 x.1.2.2.2.2.2.2.2.2.2.2.1 x.2.1.1 x.2.1.2.1 x.2.1.2.2.1 x.2.1.2.2.2.1 x.2.1.2.2.2.2.1 x.2.1.2.2.2.2.2.1 x.2.1.2.2.2.2.2.2.1 x.2.1.2.2.2.2.2.2.2.1 x.2.1.2.2.2.2.2.2.2.2.1 x.2.1.2.2.2.2.2.2.2.2.2.1 x.2.1.2.2.2.2.2.2.2.2.2.2.1, F26_r⟩
theorem F26_q (k : Nat) : ∀ xs cr, F26_p k xs = some cr → Contract Try.prog 26 xs cr := cle_ok fun x => F26_con k _ _ _ _ _ _ _ _ _ _ _ _ _ _ _ _ _ _ _ _ _ _
theorem F26_f : FnOk Try.prog 26 := .of (by kernel_rfl)
/-! 7: loop.example/netstack/laws.sameSegments -/
def F7_h : Nat → Hint
  | 0 => ⟨[(0, .plain), (1, .plain), (5, .plain)], []⟩
  | _ => ⟨[], []⟩
def F7_t (k : Nat) : Tab := entT 26 (F26_p k) <| noTab
abbrev F7_E (k : Nat) : Env := env (F7_t k) F7_h .own [] k
abbrev F7_a (a0 a1 : List (den seg)) : List Arg := [.one (.l (.s .ro seg a0)), .one (.l (.s .ro seg a1))]
def F7_r (r : Bool) : A × List (List Leaf) := (.one (.v (.bool r)), [])
def F7_s0 (a0 a1 : List (den seg)) (x5_0 : Int) : St := ⟨(.one (.s .ro seg a0)) :: (.one (.s .ro seg a1)) :: dz 3 ((.one (.v (.int .i64 x5_0))) :: dz 21 []), []⟩
def F7_l0_T {β : Type} (k : Nat) (a0 a1 : List (den seg)) (NX : Int → Option β) (RET : Bool → Option β) (x5_0 : Int) : Option β := cond (decide (x5_0 < ((a0.length : Nat) : Int))) (cond (decide (0 ≤ x5_0)) (cond (decide (x5_0 < ((a0.length : Nat) : Int))) (cond (decide (0 ≤ x5_0)) (cond (decide (x5_0 < ((a1.length : Nat) : Int))) ((F26 k ((atI a0 x5_0).1) (((atI a0 x5_0).2).1) ((((atI a0 x5_0).2).2).1) (((((atI a0 x5_0).2).2).2).1) ((((((atI a0 x5_0).2).2).2).2).1) (((((((atI a0 x5_0).2).2).2).2).2).1) ((((((((atI a0 x5_0).2).2).2).2).2).2).1) (((((((((atI a0 x5_0).2).2).2).2).2).2).2).1) ((((((((((atI a0 x5_0).2).2).2).2).2).2).2).2).1) (((((((((((atI a0 x5_0).2).2).2).2).2).2).2).2).2).1) (((((((((((atI a0 x5_0).2).2).2).2).2).2).2).2).2).2) ((atI a1 x5_0).1) (((atI a1 x5_0).2).1) ((((atI a1 x5_0).2).2).1) (((((atI a1 x5_0).2).2).2).1) ((((((atI a1 x5_0).2).2).2).2).1) (((((((atI a1 x5_0).2).2).2).2).2).1) ((((((((atI a1 x5_0).2).2).2).2).2).2).1) (((((((((atI a1 x5_0).2).2).2).2).2).2).2).1) ((((((((((atI a1 x5_0).2).2).2).2).2).2).2).2).1) (((((((((((atI a1 x5_0).2).2).2).2).2).2).2).2).2).1) (((((((((((atI a1 x5_0).2).2).2).2).2).2).2).2).2).2)).bind fun b1 => cond (!b1) (RET false) (NX (IntKind.i64.wrap (x5_0 + 1)))) none) none) none) none) (RET true)
def F7_l0 (k : Nat) (a0 a1 : List (den seg)) : Nat → Int → Option (Bool)
  | 0, _ => none
  | n + 1, x5_0 => F7_l0_T k a0 a1 (fun x5_0 => F7_l0 k a0 a1 n x5_0) some x5_0
theorem F7_l0_rd {β : Type} (k n : Nat) (a0 a1 : List (den seg)) (x5_0 : Int) (K : A × List (List Leaf) → Option β) :
    loopG (F7_E k) Try.f7 [1, 1, 0, 1, 0] 0 (kontAt (F7_E k) [1, 1, 0, 1, 0] (bodyOf Try.f7) 0 (endC (F7_E k) Try.f7 (F7_a a0 a1) K)) (n + 1) (F7_s0 a0 a1 x5_0) =
    F7_l0_T k a0 a1 (fun x5_0 => loopG (F7_E k) Try.f7 [1, 1, 0, 1, 0] 0 (kontAt (F7_E k) [1, 1, 0, 1, 0] (bodyOf Try.f7) 0 (endC (F7_E k) Try.f7 (F7_a a0 a1) K)) n (F7_s0 a0 a1 x5_0)) (fun r => K (F7_r r)) x5_0 := by kernel_rfl
theorem F7_l0_lp {β : Type} (k : Nat) (a0 a1 : List (den seg)) (K : A × List (List Leaf) → Option β) (n : Nat) : ∀ (x5_0 : Int), loopG (F7_E k) Try.f7 [1, 1, 0, 1, 0] 0 (kontAt (F7_E k) [1, 1, 0, 1, 0] (bodyOf Try.f7) 0 (endC (F7_E k) Try.f7 (F7_a a0 a1) K)) n (F7_s0 a0 a1 x5_0) =
    (F7_l0 k a0 a1 n x5_0).bind fun r => K (F7_r r) := by
  induction n with
  | zero => intros; rfl
  | succ n ih =>
    intros
    rw [F7_l0_rd, F7_l0]
    simp only [F7_l0_T, bind_cond, Option.bind_assoc, Option.bind_some, Option.bind_none, Option.bind_fun_some, ih]
def F7_T {β : Type} (k : Nat) (a0 a1 : List (den seg)) (LP0 : Int → Option β) (RET : Bool → Option β) : Option β := cond (((a0.length : Nat) : Int) != ((a1.length : Nat) : Int)) (RET false) (LP0 0)
def F7 (k : Nat) (a0 a1 : List (den seg)) : Option (Bool) := F7_T k a0 a1 (fun x5_0 => F7_l0 k a0 a1 k x5_0) some
theorem F7_st {β : Type} (k : Nat) (a0 a1 : List (den seg)) (K : A × List (List Leaf) → Option β) : evalF (F7_E k) Try.f7 (F7_a a0 a1) K =
    F7_T k a0 a1 (fun x5_0 => loopG (F7_E k) Try.f7 [1, 1, 0, 1, 0] 0 (kontAt (F7_E k) [1, 1, 0, 1, 0] (bodyOf Try.f7) 0 (endC (F7_E k) Try.f7 (F7_a a0 a1) K)) k (F7_s0 a0 a1 x5_0)) (fun r => K (F7_r r)) := by kernel_rfl
theorem F7_ev {β : Type} (k : Nat) (a0 a1 : List (den seg)) (K : A × List (List Leaf) → Option β) : evalF (F7_E k) Try.f7 (F7_a a0 a1) K = (F7 k a0 a1).bind fun r => K (F7_r r) := by
  rw [F7_st, F7]
  simp only [F7_T, bind_cond, Option.bind_assoc, Option.bind_some, Option.bind_none, Option.bind_fun_some, F7_l0_lp]
theorem F7_tOk (k : Nat) : TabFn Try.prog (F7_t k) := .ent (F26_q k) F26_f (.none)
theorem F7_con (k : Nat) (a0 a1 : List (den seg)) : Contract Try.prog 7 (F7_a a0 a1) ⟨F7 k a0 a1, F7_r⟩ := con_of (envOk (F7_tOk k) _ _ _ _) mixed Try.func7 rfl rfl (F7_ev k a0 a1 some)
def F7_sh : List AK := [.one (.l (.sl .ro seg)), .one (.l (.sl .ro seg))]
def F7_p (k : Nat) : List Arg → Option CR := cle F7_sh fun x => ⟨F7 k x.1 x.2.1, F7_r⟩
theorem F7_q (k : Nat) : ∀ xs cr, F7_p k xs = some cr → Contract Try.prog 7 xs cr := cle_ok fun x => F7_con k _ _
theorem F7_f : FnOk Try.prog 7 := .of (by kernel_rfl)
/-! 13: loop.example/netstack/laws.goodSegments -/
def F13_h : Nat → Hint
  | 0 => ⟨[(0, .plain), (3, .plain)], []⟩
  | _ => ⟨[], []⟩
def F13_t (k : Nat) : Tab := entT 10 (F10_p k) <| noTab
abbrev F13_E (k : Nat) : Env := env (F13_t k) F13_h .own [] k
abbrev F13_a (a0 : List (den seg)) : List Arg := [.one (.l (.s .ro seg a0))]
def F13_r (r : Bool) : A × List (List Leaf) := (.one (.v (.bool r)), [])
def F13_s0 (a0 : List (den seg)) (x3_0 : Int) : St := ⟨(.one (.s .ro seg a0)) :: (.one .d) :: (.one .d) :: (.one (.v (.int .i64 x3_0))) :: dz 12 [], []⟩
def F13_l0_T {β : Type} (k : Nat) (a0 : List (den seg)) (NX : Int → Option β) (RET : Bool → Option β) (x3_0 : Int) : Option β := cond (decide (x3_0 < ((a0.length : Nat) : Int))) (cond (decide (0 ≤ x3_0)) (cond (decide (x3_0 < ((a0.length : Nat) : Int))) ((F10 k ((atI a0 x3_0).1) (((atI a0 x3_0).2).1) ((((atI a0 x3_0).2).2).1) (((((atI a0 x3_0).2).2).2).1) ((((((atI a0 x3_0).2).2).2).2).1) (((((((atI a0 x3_0).2).2).2).2).2).1) ((((((((atI a0 x3_0).2).2).2).2).2).2).1) (((((((((atI a0 x3_0).2).2).2).2).2).2).2).1) ((((((((((atI a0 x3_0).2).2).2).2).2).2).2).2).1) (((((((((((atI a0 x3_0).2).2).2).2).2).2).2).2).2).1) (((((((((((atI a0 x3_0).2).2).2).2).2).2).2).2).2).2)).bind fun b1 => cond (!b1) (RET false) (NX (IntKind.i64.wrap (x3_0 + 1)))) none) none) (RET true)
def F13_l0 (k : Nat) (a0 : List (den seg)) : Nat → Int → Option (Bool)
  | 0, _ => none
  | n + 1, x3_0 => F13_l0_T k a0 (fun x3_0 => F13_l0 k a0 n x3_0) some x3_0
theorem F13_l0_rd {β : Type} (k n : Nat) (a0 : List (den seg)) (x3_0 : Int) (K : A × List (List Leaf) → Option β) :
    loopG (F13_E k) Try.f13 [1, 0, 1, 0] 0 (kontAt (F13_E k) [1, 0, 1, 0] (bodyOf Try.f13) 0 (endC (F13_E k) Try.f13 (F13_a a0) K)) (n + 1) (F13_s0 a0 x3_0) =
    F13_l0_T k a0 (fun x3_0 => loopG (F13_E k) Try.f13 [1, 0, 1, 0] 0 (kontAt (F13_E k) [1, 0, 1, 0] (bodyOf Try.f13) 0 (endC (F13_E k) Try.f13 (F13_a a0) K)) n (F13_s0 a0 x3_0)) (fun r => K (F13_r r)) x3_0 := by kernel_rfl
theorem F13_l0_lp {β : Type} (k : Nat) (a0 : List (den seg)) (K : A × List (List Leaf) → Option β) (n : Nat) : ∀ (x3_0 : Int), loopG (F13_E k) Try.f13 [1, 0, 1, 0] 0 (kontAt (F13_E k) [1, 0, 1, 0] (bodyOf Try.f13) 0 (endC (F13_E k) Try.f13 (F13_a a0) K)) n (F13_s0 a0 x3_0) =
    (F13_l0 k a0 n x3_0).bind fun r => K (F13_r r) := by
  induction n with
  | zero => intros; rfl
  | succ n ih =>
    intros
    rw [F13_l0_rd, F13_l0]
    simp only [F13_l0_T, bind_cond, Option.bind_assoc, Option.bind_some, Option.bind_none, Option.bind_fun_some, ih]
def F13_T {β : Type} (k : Nat) (a0 : List (den seg)) (LP0 : Int → Option β) : Option β := LP0 0
def F13 (k : Nat) (a0 : List (den seg)) : Option (Bool) := F13_T k a0 (fun x3_0 => F13_l0 k a0 k x3_0)
theorem F13_st {β : Type} (k : Nat) (a0 : List (den seg)) (K : A × List (List Leaf) → Option β) : evalF (F13_E k) Try.f13 (F13_a a0) K =
    F13_T k a0 (fun x3_0 => loopG (F13_E k) Try.f13 [1, 0, 1, 0] 0 (kontAt (F13_E k) [1, 0, 1, 0] (bodyOf Try.f13) 0 (endC (F13_E k) Try.f13 (F13_a a0) K)) k (F13_s0 a0 x3_0)) := by kernel_rfl
theorem F13_ev {β : Type} (k : Nat) (a0 : List (den seg)) (K : A × List (List Leaf) → Option β) : evalF (F13_E k) Try.f13 (F13_a a0) K = (F13 k a0).bind fun r => K (F13_r r) := by
  rw [F13_st, F13]
  simp only [F13_T, bind_cond, Option.bind_assoc, Option.bind_some, Option.bind_none, Option.bind_fun_some, F13_l0_lp]
theorem F13_tOk (k : Nat) : TabFn Try.prog (F13_t k) := .ent (F10_q k) F10_f (.none)
theorem F13_con (k : Nat) (a0 : List (den seg)) : Contract Try.prog 13 (F13_a a0) ⟨F13 k a0, F13_r⟩ := con_of (envOk (F13_tOk k) _ _ _ _) mixed Try.func13 rfl rfl (F13_ev k a0 some)
def F13_sh : List AK := [.one (.l (.sl .ro seg))]
def F13_p (k : Nat) : List Arg → Option CR := cle F13_sh fun x => ⟨F13 k x.1, F13_r⟩
theorem F13_q (k : Nat) : ∀ xs cr, F13_p k xs = some cr → Contract Try.prog 13 xs cr := cle_ok fun x => F13_con k _
theorem F13_f : FnOk Try.prog 13 := .of (by kernel_rfl)
/-! 59: loop.example/netstack/impl.bytesOf -/
def F59_h : Nat → Hint
  | 0 => ⟨[(0, .plain), (5, .plain), (6, .plain)], [(8000, .plain)]⟩
  | _ => ⟨[], []⟩
abbrev F59_E (k : Nat) : Env := env noTab F59_h .own [] k
abbrev F59_a (a0 a1 : Int) : List Arg := [.one (.l (.v (.int .i64 a0))), .one (.l (.v (.int .i64 a1)))]
def F59_r (r : List (den (.int .u8))) : A × List (List Leaf) := (.one (.s .own (.int .u8) r), [])
def F59_s0 (a0 a1 : Int) (x0_0 x6_0 : Int) (m8000_0 : List (den (.int .u8))) : St := ⟨(.one (.v (.int .i64 x0_0))) :: dz 4 ((.one (.a (.cell 8000) 0 0 none)) :: (.one (.v (.int .i64 x6_0))) :: dz 16 []), [(8000, ⟨.s .own (.int .u8) m8000_0, 0, 0⟩)]⟩
def F59_l0_T {β : Type} (k : Nat) (a0 a1 : Int) (NX : Int → Int → List (den (.int .u8)) → Option β) (RET : List (den (.int .u8)) → Option β) (x0_0 x6_0 : Int) (m8000_0 : List (den (.int .u8))) : Option β := cond (decide (x6_0 ≥ 0)) (cond (decide (0 ≤ x6_0)) (cond (decide (x6_0 < ((m8000_0.length : Nat) : Int))) (NX (x0_0.fdiv (2 ^ (8))) (IntKind.i64.wrap (x6_0 - 1)) (m8000_0.set x6_0.toNat (IntKind.u8.wrap (x0_0)))) none) none) (RET m8000_0)
def F59_l0 (k : Nat) (a0 a1 : Int) : Nat → Int → Int → List (den (.int .u8)) → Option (List (den (.int .u8)))
  | 0, _, _, _ => none
  | n + 1, x0_0, x6_0, m8000_0 => F59_l0_T k a0 a1 (fun x0_0 x6_0 m8000_0 => F59_l0 k a0 a1 n x0_0 x6_0 m8000_0) some x0_0 x6_0 m8000_0
theorem F59_l0_rd {β : Type} (k n : Nat) (a0 a1 : Int) (x0_0 x6_0 : Int) (m8000_0 : List (den (.int .u8))) (K : A × List (List Leaf) → Option β) :
    loopG (F59_E k) Try.f59 [1, 1, 0, 1, 0] 0 (kontAt (F59_E k) [1, 1, 0, 1, 0] (bodyOf Try.f59) 0 (endC (F59_E k) Try.f59 (F59_a a0 a1) K)) (n + 1) (F59_s0 a0 a1 x0_0 x6_0 m8000_0) =
    F59_l0_T k a0 a1 (fun x0_0 x6_0 m8000_0 => loopG (F59_E k) Try.f59 [1, 1, 0, 1, 0] 0 (kontAt (F59_E k) [1, 1, 0, 1, 0] (bodyOf Try.f59) 0 (endC (F59_E k) Try.f59 (F59_a a0 a1) K)) n (F59_s0 a0 a1 x0_0 x6_0 m8000_0)) (fun r => K (F59_r r)) x0_0 x6_0 m8000_0 := by kernel_rfl
theorem F59_l0_lp {β : Type} (k : Nat) (a0 a1 : Int) (K : A × List (List Leaf) → Option β) (n : Nat) : ∀ (x0_0 x6_0 : Int) (m8000_0 : List (den (.int .u8))), loopG (F59_E k) Try.f59 [1, 1, 0, 1, 0] 0 (kontAt (F59_E k) [1, 1, 0, 1, 0] (bodyOf Try.f59) 0 (endC (F59_E k) Try.f59 (F59_a a0 a1) K)) n (F59_s0 a0 a1 x0_0 x6_0 m8000_0) =
    (F59_l0 k a0 a1 n x0_0 x6_0 m8000_0).bind fun r => K (F59_r r) := by
  induction n with
  | zero => intros; rfl
  | succ n ih =>
    intros
    rw [F59_l0_rd, F59_l0]
    simp only [F59_l0_T, bind_cond, Option.bind_assoc, Option.bind_some, Option.bind_none, Option.bind_fun_some, ih]
def F59_T {β : Type} (k : Nat) (a0 a1 : Int) (LP0 : Int → Int → List (den (.int .u8)) → Option β) : Option β := cond (decide (0 ≤ a1) && decide (a1 = a1) && decide (a1 * (1 : Nat) ≤ 140737488355328)) (LP0 a0 (IntKind.i64.wrap (a1 - 1)) (List.replicate a1.toNat (dflt (.int .u8)))) none
def F59 (k : Nat) (a0 a1 : Int) : Option (List (den (.int .u8))) := F59_T k a0 a1 (fun x0_0 x6_0 m8000_0 => F59_l0 k a0 a1 k x0_0 x6_0 m8000_0)
theorem F59_st {β : Type} (k : Nat) (a0 a1 : Int) (K : A × List (List Leaf) → Option β) : evalF (F59_E k) Try.f59 (F59_a a0 a1) K =
    F59_T k a0 a1 (fun x0_0 x6_0 m8000_0 => loopG (F59_E k) Try.f59 [1, 1, 0, 1, 0] 0 (kontAt (F59_E k) [1, 1, 0, 1, 0] (bodyOf Try.f59) 0 (endC (F59_E k) Try.f59 (F59_a a0 a1) K)) k (F59_s0 a0 a1 x0_0 x6_0 m8000_0)) := by kernel_rfl
theorem F59_ev {β : Type} (k : Nat) (a0 a1 : Int) (K : A × List (List Leaf) → Option β) : evalF (F59_E k) Try.f59 (F59_a a0 a1) K = (F59 k a0 a1).bind fun r => K (F59_r r) := by
  rw [F59_st, F59]
  simp only [F59_T, bind_cond, Option.bind_assoc, Option.bind_some, Option.bind_none, Option.bind_fun_some, F59_l0_lp]
theorem F59_con (k : Nat) (a0 a1 : Int) : Contract Try.prog 59 (F59_a a0 a1) ⟨F59 k a0 a1, F59_r⟩ := con_of (envOk .none _ _ _ _) mixed Try.func59 rfl rfl (F59_ev k a0 a1 some)
def F59_sh : List AK := [.one (.l (.int .i64)), .one (.l (.int .i64))]
def F59_p (k : Nat) : List Arg → Option CR := cle F59_sh fun x => ⟨F59 k x.1 x.2.1, F59_r⟩
theorem F59_q (k : Nat) : ∀ xs cr, F59_p k xs = some cr → Contract Try.prog 59 xs cr := cle_ok fun x => F59_con k _ _
theorem F59_f : FnOk Try.prog 59 := .of (by kernel_rfl)
/-! 39: loop.example/netstack/impl.BytesOf -/
def F39_t (k : Nat) : Tab := entT 33 (F33_p k) <| entT 59 (F59_p k) <| noTab
abbrev F39_E (k : Nat) : Env := env (F39_t k) noHint .own [] k
abbrev F39_a (a0 a1 : Int) : List Arg := [.one (.l (.v (.int .i64 a0))), .one (.l (.v (.int .i64 a1)))]
def F39_r (r : List (den (.int .u8))) : A × List (List Leaf) := (.one (.s .own (.int .u8) r), [])
def F39_T {β : Type} (k : Nat) (a0 a1 : Int) (RET : List (den (.int .u8)) → Option β) : Option β := (F33 k a1 1 4).bind fun b1 => cond (!b1) (RET []) (cond (decide ((IntKind.i64.wrap (8 * a1)) < 0)) none ((F33 k a0 0 (IntKind.i64.wrap ((IntKind.i64.wrap (1 * 2 ^ (min (IntKind.i64.wrap (8 * a1)).toNat 64))) - 1))).bind fun b2 => cond (!b2) (RET []) ((F59 k a0 a1).bind fun b3 => RET b3)))
def F39 (k : Nat) (a0 a1 : Int) : Option (List (den (.int .u8))) := F39_T k a0 a1 some
theorem F39_st {β : Type} (k : Nat) (a0 a1 : Int) (K : A × List (List Leaf) → Option β) : evalF (F39_E k) Try.f39 (F39_a a0 a1) K =
    F39_T k a0 a1 (fun r => K (F39_r r)) := by kernel_rfl
theorem F39_ev {β : Type} (k : Nat) (a0 a1 : Int) (K : A × List (List Leaf) → Option β) : evalF (F39_E k) Try.f39 (F39_a a0 a1) K = (F39 k a0 a1).bind fun r => K (F39_r r) := by
  rw [F39_st, F39]
  simp only [F39_T, bind_cond, Option.bind_assoc, Option.bind_some, Option.bind_none, Option.bind_fun_some]
theorem F39_tOk (k : Nat) : TabFn Try.prog (F39_t k) := .ent (F33_q k) F33_f (.ent (F59_q k) F59_f (.none))
theorem F39_con (k : Nat) (a0 a1 : Int) : Contract Try.prog 39 (F39_a a0 a1) ⟨F39 k a0 a1, F39_r⟩ := con_of (envOk (F39_tOk k) _ _ _ _) mixed Try.func39 rfl rfl (F39_ev k a0 a1 some)
def F39_sh : List AK := [.one (.l (.int .i64)), .one (.l (.int .i64))]
def F39_p (k : Nat) : List Arg → Option CR := cle F39_sh fun x => ⟨F39 k x.1 x.2.1, F39_r⟩
theorem F39_q (k : Nat) : ∀ xs cr, F39_p k xs = some cr → Contract Try.prog 39 xs cr := cle_ok fun x => F39_con k _ _
theorem F39_f : FnOk Try.prog 39 := .of (by kernel_rfl)
/-! 12: loop.example/netstack/laws.alive -/
def F12_t (k : Nat) : Tab := entT 39 (F39_p k) <| noTab
abbrev F12_E (k : Nat) : Env := env (F12_t k) noHint .own [] k
abbrev F12_a : List Arg := []
def F12_r (r : Bool) : A × List (List Leaf) := (.one (.v (.bool r)), [])
def F12_T {β : Type} (k : Nat) (RET : Bool → Option β) : Option β := (F39 k 5 1).bind fun b1 => cond (((b1.length : Nat) : Int) == 1) ((F39 k 256 1).bind fun b2 => RET (((b2.length : Nat) : Int) == 0)) (RET false)
def F12 (k : Nat) : Option (Bool) := F12_T k some
theorem F12_st {β : Type} (k : Nat) (K : A × List (List Leaf) → Option β) : evalF (F12_E k) Try.f12 (F12_a) K =
    F12_T k (fun r => K (F12_r r)) := by kernel_rfl
theorem F12_ev {β : Type} (k : Nat) (K : A × List (List Leaf) → Option β) : evalF (F12_E k) Try.f12 (F12_a) K = (F12 k).bind fun r => K (F12_r r) := by
  rw [F12_st, F12]
  simp only [F12_T, bind_cond, Option.bind_assoc, Option.bind_some, Option.bind_none, Option.bind_fun_some]
theorem F12_tOk (k : Nat) : TabFn Try.prog (F12_t k) := .ent (F39_q k) F39_f (.none)
theorem F12_con (k : Nat) : Contract Try.prog 12 (F12_a) ⟨F12 k, F12_r⟩ := con_of (envOk (F12_tOk k) _ _ _ _) mixed Try.func12 rfl rfl (F12_ev k some)
def F12_sh : List AK := []
def F12_p (k : Nat) : List Arg → Option CR := cle F12_sh fun x => ⟨F12 k, F12_r⟩
theorem F12_q (k : Nat) : ∀ xs cr, F12_p k xs = some cr → Contract Try.prog 12 xs cr := cle_ok fun x => F12_con k
theorem F12_f : FnOk Try.prog 12 := .of (by kernel_rfl)
/-! 3: loop.example/netstack/laws.FnSegmentsJoined -/
def F3_h : Nat → Hint
  | 0 => ⟨[(3, .plain), (4, .plain), (5, .plain), (6, .plain), (7, .plain), (8, .plain)], [(16000, .plain), (18000, .plain)]⟩
  | 2 => ⟨[(3, .plain), (4, .plain), (5, .plain), (6, .plain), (7, .plain), (9, .plain)], [(16000, .plain), (18000, .plain)]⟩
  | _ => ⟨[], []⟩
def F3_t (k : Nat) : Tab := entT 5 (F5_p k) <| entT 6 (F6_p k) <| entT 8 (F8_p k) <| entT 7 (F7_p k) <| entT 9 (F9_p k) <| entT 10 (F10_p k) <| entT 11 (F11_p k) <| entT 12 (F12_p k) <| entT 13 (F13_p k) <| noTab
abbrev F3_E (k : Nat) : Env := env (F3_t k) F3_h .own [] k
abbrev F3_a (a0 : List (den (.int .u8))) : List Arg := [.one (.l (.s .ro (.int .u8) a0))]
def F3_r (r : Bool) : A × List (List Leaf) := (.one (.v (.bool r)), [])
def F3_s2 (a0 : List (den (.int .u8))) (x5_2 x6_2 : Int) (x7_2 : Bool) (x9_2 : Int) (m16000_2 m18000_2 : List (den seg)) : St := ⟨dz 3 ((.one (.a (.cell 16000) 0 0 none)) :: (.one (.a (.cell 18000) 0 0 none)) :: (.one (.v (.int .i64 x5_2))) :: (.one (.v (.int .i64 x6_2))) :: (.one (.v (.bool x7_2))) :: (.one .d) :: (.one (.v (.int .i64 x9_2))) :: dz 95 []), [(16000, ⟨.s .own seg m16000_2, 0, 0⟩), (18000, ⟨.s .own seg m18000_2, 0, 0⟩)]⟩
def F3_l2_T {β : Type} (k : Nat) (a0 : List (den (.int .u8))) (NX : Int → Int → Bool → Int → List (den seg) → List (den seg) → Option β) (RET : Bool → Option β) (x5_2 x6_2 : Int) (x7_2 : Bool) (x9_2 : Int) (m16000_2 m18000_2 : List (den seg)) : Option β := cond (decide (x9_2 < ((m18000_2.length : Nat) : Int))) (cond (decide (0 ≤ x9_2)) (cond (decide (x9_2 < ((m18000_2.length : Nat) : Int))) ((F9 k ((atI m18000_2 x9_2).1) (((atI m18000_2 x9_2).2).1) ((((atI m18000_2 x9_2).2).2).1) (((((atI m18000_2 x9_2).2).2).2).1) ((((((atI m18000_2 x9_2).2).2).2).2).1) (((((((atI m18000_2 x9_2).2).2).2).2).2).1) ((((((((atI m18000_2 x9_2).2).2).2).2).2).2).1) (((((((((atI m18000_2 x9_2).2).2).2).2).2).2).2).1) ((((((((((atI m18000_2 x9_2).2).2).2).2).2).2).2).2).1) (((((((((((atI m18000_2 x9_2).2).2).2).2).2).2).2).2).2).1) (((((((((((atI m18000_2 x9_2).2).2).2).2).2).2).2).2).2).2)).bind fun b7 => cond (decide (x9_2 > 0)) (cond (decide (0 ≤ (IntKind.i64.wrap (x9_2 - 1)))) (cond (decide ((IntKind.i64.wrap (x9_2 - 1)) < ((m18000_2.length : Nat) : Int))) (cond (decide (0 ≤ x9_2)) (cond (decide (x9_2 < ((m18000_2.length : Nat) : Int))) ((F11 k ((atI m18000_2 (IntKind.i64.wrap (x9_2 - 1))).1) (((atI m18000_2 (IntKind.i64.wrap (x9_2 - 1))).2).1) ((((atI m18000_2 (IntKind.i64.wrap (x9_2 - 1))).2).2).1) (((((atI m18000_2 (IntKind.i64.wrap (x9_2 - 1))).2).2).2).1) ((((((atI m18000_2 (IntKind.i64.wrap (x9_2 - 1))).2).2).2).2).1) (((((((atI m18000_2 (IntKind.i64.wrap (x9_2 - 1))).2).2).2).2).2).1) ((((((((atI m18000_2 (IntKind.i64.wrap (x9_2 - 1))).2).2).2).2).2).2).1) (((((((((atI m18000_2 (IntKind.i64.wrap (x9_2 - 1))).2).2).2).2).2).2).2).1) ((((((((((atI m18000_2 (IntKind.i64.wrap (x9_2 - 1))).2).2).2).2).2).2).2).2).1) (((((((((((atI m18000_2 (IntKind.i64.wrap (x9_2 - 1))).2).2).2).2).2).2).2).2).2).1) (((((((((((atI m18000_2 (IntKind.i64.wrap (x9_2 - 1))).2).2).2).2).2).2).2).2).2).2) ((atI m18000_2 x9_2).1) (((atI m18000_2 x9_2).2).1) ((((atI m18000_2 x9_2).2).2).1) (((((atI m18000_2 x9_2).2).2).2).1) ((((((atI m18000_2 x9_2).2).2).2).2).1) (((((((atI m18000_2 x9_2).2).2).2).2).2).1) ((((((((atI m18000_2 x9_2).2).2).2).2).2).2).1) (((((((((atI m18000_2 x9_2).2).2).2).2).2).2).2).1) ((((((((((atI m18000_2 x9_2).2).2).2).2).2).2).2).2).1) (((((((((((atI m18000_2 x9_2).2).2).2).2).2).2).2).2).2).1) (((((((((((atI m18000_2 x9_2).2).2).2).2).2).2).2).2).2).2)).bind fun b8 => cond b8.2.2.2.2.2.2.2.2.2.2.2 (RET false) (NX x5_2 (IntKind.i64.wrap (x6_2 + b7)) x7_2 (IntKind.i64.wrap (x9_2 + 1)) m16000_2 m18000_2)) none) none) none) none) (NX x5_2 (IntKind.i64.wrap (x6_2 + b7)) x7_2 (IntKind.i64.wrap (x9_2 + 1)) m16000_2 m18000_2)) none) none) (cond (!x7_2) (cond (((m18000_2.length : Nat) : Int) == 0) ((F12 k).bind fun b9 => RET b9) (RET false)) ((F13 k m18000_2).bind fun b10 => cond b10 (cond (decide (((m18000_2.length : Nat) : Int) ≤ ((m16000_2.length : Nat) : Int))) (cond (x6_2 == x5_2) ((F6 k m18000_2).bind fun b11 => (F7 k b11 m18000_2).bind fun b12 => cond b12 ((F12 k).bind fun b13 => RET b13) (RET false)) (RET false)) (RET false)) (RET false)))
def F3_l2 (k : Nat) (a0 : List (den (.int .u8))) : Nat → Int → Int → Bool → Int → List (den seg) → List (den seg) → Option (Bool)
  | 0, _, _, _, _, _, _ => none
  | n + 1, x5_2, x6_2, x7_2, x9_2, m16000_2, m18000_2 => F3_l2_T k a0 (fun x5_2 x6_2 x7_2 x9_2 m16000_2 m18000_2 => F3_l2 k a0 n x5_2 x6_2 x7_2 x9_2 m16000_2 m18000_2) some x5_2 x6_2 x7_2 x9_2 m16000_2 m18000_2
theorem F3_l2_rd {β : Type} (k n : Nat) (a0 : List (den (.int .u8))) (x5_2 x6_2 : Int) (x7_2 : Bool) (x9_2 : Int) (m16000_2 m18000_2 : List (den seg)) (K : A × List (List Leaf) → Option β) :
    loopG (F3_E k) Try.f3 [1, 1, 1, 1, 1, 1, 1, 1, 0, 1, 0] 2 (kontAt (F3_E k) [1, 1, 1, 1, 1, 1, 1, 1, 0, 1, 0] (bodyOf Try.f3) 0 (endC (F3_E k) Try.f3 (F3_a a0) K)) (n + 1) (F3_s2 a0 x5_2 x6_2 x7_2 x9_2 m16000_2 m18000_2) =
    F3_l2_T k a0 (fun x5_2 x6_2 x7_2 x9_2 m16000_2 m18000_2 => loopG (F3_E k) Try.f3 [1, 1, 1, 1, 1, 1, 1, 1, 0, 1, 0] 2 (kontAt (F3_E k) [1, 1, 1, 1, 1, 1, 1, 1, 0, 1, 0] (bodyOf Try.f3) 0 (endC (F3_E k) Try.f3 (F3_a a0) K)) n (F3_s2 a0 x5_2 x6_2 x7_2 x9_2 m16000_2 m18000_2)) (fun r => K (F3_r r)) x5_2 x6_2 x7_2 x9_2 m16000_2 m18000_2 := by kernel_rfl
theorem F3_l2_lp {β : Type} (k : Nat) (a0 : List (den (.int .u8))) (K : A × List (List Leaf) → Option β) (n : Nat) : ∀ (x5_2 x6_2 : Int) (x7_2 : Bool) (x9_2 : Int) (m16000_2 m18000_2 : List (den seg)), loopG (F3_E k) Try.f3 [1, 1, 1, 1, 1, 1, 1, 1, 0, 1, 0] 2 (kontAt (F3_E k) [1, 1, 1, 1, 1, 1, 1, 1, 0, 1, 0] (bodyOf Try.f3) 0 (endC (F3_E k) Try.f3 (F3_a a0) K)) n (F3_s2 a0 x5_2 x6_2 x7_2 x9_2 m16000_2 m18000_2) =
    (F3_l2 k a0 n x5_2 x6_2 x7_2 x9_2 m16000_2 m18000_2).bind fun r => K (F3_r r) := by
  induction n with
  | zero => intros; rfl
  | succ n ih =>
    intros
    rw [F3_l2_rd, F3_l2]
    simp only [F3_l2_T, bind_cond, Option.bind_assoc, Option.bind_some, Option.bind_none, Option.bind_fun_some, ih]
def F3_s0 (a0 : List (den (.int .u8))) (x5_0 : Int) (x7_0 : Bool) (x8_0 : Int) (m16000_0 m18000_0 : List (den seg)) : St := ⟨dz 3 ((.one (.a (.cell 16000) 0 0 none)) :: (.one (.a (.cell 18000) 0 0 none)) :: (.one (.v (.int .i64 x5_0))) :: (.one (.v (.int .i64 0))) :: (.one (.v (.bool x7_0))) :: (.one (.v (.int .i64 x8_0))) :: dz 96 []), [(16000, ⟨.s .own seg m16000_0, 0, 0⟩), (18000, ⟨.s .own seg m18000_0, 0, 0⟩)]⟩
def F3_l0_T {β : Type} (k : Nat) (a0 : List (den (.int .u8))) (NX : Int → Bool → Int → List (den seg) → List (den seg) → Option β) (LP2 : Int → Int → Bool → Int → List (den seg) → List (den seg) → Option β) (x5_0 : Int) (x7_0 : Bool) (x8_0 : Int) (m16000_0 m18000_0 : List (den seg)) : Option β := cond (decide (x8_0 < ((m16000_0.length : Nat) : Int))) (cond (decide (0 ≤ x8_0)) (cond (decide (x8_0 < ((m16000_0.length : Nat) : Int))) ((F9 k ((atI m16000_0 x8_0).1) (((atI m16000_0 x8_0).2).1) ((((atI m16000_0 x8_0).2).2).1) (((((atI m16000_0 x8_0).2).2).2).1) ((((((atI m16000_0 x8_0).2).2).2).2).1) (((((((atI m16000_0 x8_0).2).2).2).2).2).1) ((((((((atI m16000_0 x8_0).2).2).2).2).2).2).1) (((((((((atI m16000_0 x8_0).2).2).2).2).2).2).2).1) ((((((((((atI m16000_0 x8_0).2).2).2).2).2).2).2).2).1) (((((((((((atI m16000_0 x8_0).2).2).2).2).2).2).2).2).2).1) (((((((((((atI m16000_0 x8_0).2).2).2).2).2).2).2).2).2).2)).bind fun b5 => cond x7_0 (cond (decide (0 ≤ x8_0)) (cond (decide (x8_0 < ((m16000_0.length : Nat) : Int))) ((F10 k ((atI m16000_0 x8_0).1) (((atI m16000_0 x8_0).2).1) ((((atI m16000_0 x8_0).2).2).1) (((((atI m16000_0 x8_0).2).2).2).1) ((((((atI m16000_0 x8_0).2).2).2).2).1) (((((((atI m16000_0 x8_0).2).2).2).2).2).1) ((((((((atI m16000_0 x8_0).2).2).2).2).2).2).1) (((((((((atI m16000_0 x8_0).2).2).2).2).2).2).2).1) ((((((((((atI m16000_0 x8_0).2).2).2).2).2).2).2).2).1) (((((((((((atI m16000_0 x8_0).2).2).2).2).2).2).2).2).2).1) (((((((((((atI m16000_0 x8_0).2).2).2).2).2).2).2).2).2).2)).bind fun b6 => NX (IntKind.i64.wrap (x5_0 + b5)) b6 (IntKind.i64.wrap (x8_0 + 1)) m16000_0 m18000_0) none) none) (NX (IntKind.i64.wrap (x5_0 + b5)) false (IntKind.i64.wrap (x8_0 + 1)) m16000_0 m18000_0)) none) none) (LP2 x5_0 0 x7_0 0 m16000_0 m18000_0)
def F3_l0 (k : Nat) (a0 : List (den (.int .u8))) : Nat → Int → Bool → Int → List (den seg) → List (den seg) → Option (Bool)
  | 0, _, _, _, _, _ => none
  | n + 1, x5_0, x7_0, x8_0, m16000_0, m18000_0 => F3_l0_T k a0 (fun x5_0 x7_0 x8_0 m16000_0 m18000_0 => F3_l0 k a0 n x5_0 x7_0 x8_0 m16000_0 m18000_0) (fun x5_2 x6_2 x7_2 x9_2 m16000_2 m18000_2 => F3_l2 k a0 k x5_2 x6_2 x7_2 x9_2 m16000_2 m18000_2) x5_0 x7_0 x8_0 m16000_0 m18000_0
theorem F3_l0_rd {β : Type} (k n : Nat) (a0 : List (den (.int .u8))) (x5_0 : Int) (x7_0 : Bool) (x8_0 : Int) (m16000_0 m18000_0 : List (den seg)) (K : A × List (List Leaf) → Option β) :
    loopG (F3_E k) Try.f3 [1, 1, 1, 1, 1, 1, 1, 0, 1, 0] 0 (kontAt (F3_E k) [1, 1, 1, 1, 1, 1, 1, 0, 1, 0] (bodyOf Try.f3) 0 (endC (F3_E k) Try.f3 (F3_a a0) K)) (n + 1) (F3_s0 a0 x5_0 x7_0 x8_0 m16000_0 m18000_0) =
    F3_l0_T k a0 (fun x5_0 x7_0 x8_0 m16000_0 m18000_0 => loopG (F3_E k) Try.f3 [1, 1, 1, 1, 1, 1, 1, 0, 1, 0] 0 (kontAt (F3_E k) [1, 1, 1, 1, 1, 1, 1, 0, 1, 0] (bodyOf Try.f3) 0 (endC (F3_E k) Try.f3 (F3_a a0) K)) n (F3_s0 a0 x5_0 x7_0 x8_0 m16000_0 m18000_0)) (fun x5_2 x6_2 x7_2 x9_2 m16000_2 m18000_2 => loopG (F3_E k) Try.f3 [1, 1, 1, 1, 1, 1, 1, 1, 0, 1, 0] 2 (kontAt (F3_E k) [1, 1, 1, 1, 1, 1, 1, 1, 0, 1, 0] (bodyOf Try.f3) 0 (endC (F3_E k) Try.f3 (F3_a a0) K)) k (F3_s2 a0 x5_2 x6_2 x7_2 x9_2 m16000_2 m18000_2)) x5_0 x7_0 x8_0 m16000_0 m18000_0 := by kernel_rfl
theorem F3_l0_lp {β : Type} (k : Nat) (a0 : List (den (.int .u8))) (K : A × List (List Leaf) → Option β) (n : Nat) : ∀ (x5_0 : Int) (x7_0 : Bool) (x8_0 : Int) (m16000_0 m18000_0 : List (den seg)), loopG (F3_E k) Try.f3 [1, 1, 1, 1, 1, 1, 1, 0, 1, 0] 0 (kontAt (F3_E k) [1, 1, 1, 1, 1, 1, 1, 0, 1, 0] (bodyOf Try.f3) 0 (endC (F3_E k) Try.f3 (F3_a a0) K)) n (F3_s0 a0 x5_0 x7_0 x8_0 m16000_0 m18000_0) =
    (F3_l0 k a0 n x5_0 x7_0 x8_0 m16000_0 m18000_0).bind fun r => K (F3_r r) := by
  induction n with
  | zero => intros; rfl
  | succ n ih =>
    intros
    rw [F3_l0_rd, F3_l0]
    simp only [F3_l0_T, bind_cond, Option.bind_assoc, Option.bind_some, Option.bind_none, Option.bind_fun_some, F3_l2_lp, ih]
def F3_T {β : Type} (k : Nat) (a0 : List (den (.int .u8))) (LP0 : Int → Bool → Int → List (den seg) → List (den seg) → Option β) (RET : Bool → Option β) : Option β := cond (decide (((a0.length : Nat) : Int) > 1048576)) (RET true) ((F5 k a0).bind fun b1 => (F6 k b1).bind fun b2 => (F8 k b1).bind fun b3 => (F7 k b2 b3).bind fun b4 => cond (!b4) (RET false) (LP0 0 true 0 b1 b2))
def F3 (k : Nat) (a0 : List (den (.int .u8))) : Option (Bool) := F3_T k a0 (fun x5_0 x7_0 x8_0 m16000_0 m18000_0 => F3_l0 k a0 k x5_0 x7_0 x8_0 m16000_0 m18000_0) some
theorem F3_st {β : Type} (k : Nat) (a0 : List (den (.int .u8))) (K : A × List (List Leaf) → Option β) : evalF (F3_E k) Try.f3 (F3_a a0) K =
    F3_T k a0 (fun x5_0 x7_0 x8_0 m16000_0 m18000_0 => loopG (F3_E k) Try.f3 [1, 1, 1, 1, 1, 1, 1, 0, 1, 0] 0 (kontAt (F3_E k) [1, 1, 1, 1, 1, 1, 1, 0, 1, 0] (bodyOf Try.f3) 0 (endC (F3_E k) Try.f3 (F3_a a0) K)) k (F3_s0 a0 x5_0 x7_0 x8_0 m16000_0 m18000_0)) (fun r => K (F3_r r)) := by kernel_rfl
theorem F3_ev {β : Type} (k : Nat) (a0 : List (den (.int .u8))) (K : A × List (List Leaf) → Option β) : evalF (F3_E k) Try.f3 (F3_a a0) K = (F3 k a0).bind fun r => K (F3_r r) := by
  rw [F3_st, F3]
  simp only [F3_T, bind_cond, Option.bind_assoc, Option.bind_some, Option.bind_none, Option.bind_fun_some, F3_l0_lp]
theorem F3_tOk (k : Nat) : TabFn Try.prog (F3_t k) := .ent (F5_q k) F5_f (.ent (F6_q k) F6_f (.ent (F8_q k) F8_f (.ent (F7_q k) F7_f (.ent (F9_q k) F9_f (.ent (F10_q k) F10_f (.ent (F11_q k) F11_f (.ent (F12_q k) F12_f (.ent (F13_q k) F13_f (.none)))))))))
theorem F3_con (k : Nat) (a0 : List (den (.int .u8))) : Contract Try.prog 3 (F3_a a0) ⟨F3 k a0, F3_r⟩ := con_of (envOk (F3_tOk k) _ _ _ _) mixed Try.func3 rfl rfl (F3_ev k a0 some)
def F3_sh : List AK := [.one (.l (.sl .ro (.int .u8)))]
def F3_p (k : Nat) : List Arg → Option CR := cle F3_sh fun x => ⟨F3 k x.1, F3_r⟩
theorem F3_q (k : Nat) : ∀ xs cr, F3_p k xs = some cr → Contract Try.prog 3 xs cr := cle_ok fun x => F3_con k _
theorem F3_f : FnOk Try.prog 3 := .of (by kernel_rfl)
end Go.Proofs.Ytamlndedbnkbmaa.Gn
end
