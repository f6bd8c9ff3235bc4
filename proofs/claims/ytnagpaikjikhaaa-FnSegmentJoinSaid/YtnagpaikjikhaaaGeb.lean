/-
  The functions that the law reaches, as plain Lean functions, and their contracts. (A part of the proofs of this seat.)
-/
import Derived.Test.YtnagpaikjikhaaaChecked
import Derived.Test.YtnagpaikjikhaaaRc
import Derived.Test.YtnagpaikjikhaaaGea
import Derived.KernelRfl

section
set_option linter.unusedVariables false
set_option linter.unusedSimpArgs false
/-
  The functions that the laws over cut segments reach, as plain functions (printed by rfgen.py).
-/
namespace Go.Proofs.Ytnagpaikjikhaaa.Gn
open Go.Rf
abbrev rng : Ty := (.pair (.int .i64) (.int .i64))
abbrev seg : Ty := (.pair (.int .i64) (.pair (.int .i64) (.pair (.int .i64) (.pair (.int .i64) (.pair (.int .i64) (.pair .bool (.pair .bool (.pair .bool (.pair .bool (.pair (.sl rng) (.sl (.int .u8))))))))))))
def tyT : List (Nat × TyI) := [(3, ⟨(.int .i64), false, 0⟩), (4, ⟨.bool, false, 0⟩), (5, ⟨(.int .u8), false, 0⟩), (9, ⟨.str, false, 0⟩), (22, ⟨(.sl (.int .u8)), false, 1⟩), (23, ⟨(.sl rng), false, 16⟩), (25, ⟨seg, true, 0⟩), (28, ⟨(.sl seg), false, 96⟩), (75, ⟨rng, true, 0⟩), (98, ⟨(.pair (.sl (.int .u8)) (.int .i64)), true, 0⟩), (102, ⟨(.sl (.sl (.int .u8))), false, 24⟩), (114, ⟨(.sl (.int .i64)), false, 8⟩)]
def fldT : FldT := [(25, [(0, 1, false), (1, 1, false), (2, 1, false), (3, 1, false), (4, 1, false), (5, 1, false), (6, 1, false), (7, 1, false), (8, 1, false), (9, 1, false), (10, 1, false)]), (75, [(0, 1, false), (1, 1, false)]), (98, [(0, 1, false), (1, 1, false)])]
def eqT : List Nat := [75]
def env (tab : Tab) (hint : Nat → Hint) (rm : Rf.Mode) (pins : List (Bool × Nat)) (k : Nat) : Env :=
  { tab := tab, lend := (fun f => cond (Nat.beq f 114) [true] (cond (Nat.beq f 113) [true] (cond (Nat.beq f 49) [true] ([])))), lent := (fun f => cond (Nat.beq f 26) [true] (cond (Nat.beq f 27) [true] (cond (Nat.beq f 32) [true] (cond (Nat.beq f 69) [true] ([]))))), pins := pins, ty := asc tyT, fld := fldOf fldT, pw := fun _ => none, cw := fun _ => [], hint := hint, eqt := hasK eqT, rm := rm, fuel := k, itr := [(47, 89, (.int .u8))] }
theorem tyOk : AllT (TyOk Try.prog) tyT :=
  ⟨.ofInt (b := 8) (by kernel_rfl) (by kernel_rfl), .ofBool (b := 1) (by kernel_rfl) (by kernel_rfl), .ofInt (b := 1) (by kernel_rfl) (by kernel_rfl), .ofStr (b := 16) (by kernel_rfl) (by kernel_rfl), .ofSl (te := 5) (b := 24) (by kernel_rfl) (by kernel_rfl) (by kernel_rfl) (fun _ h => by cases h; kernel_rfl), .ofSl (te := 75) (b := 24) (by kernel_rfl) (by kernel_rfl) (by kernel_rfl) nofun, .ofAgg (b := 96) (by kernel_rfl) (by kernel_rfl), .ofSl (te := 25) (b := 24) (by kernel_rfl) (by kernel_rfl) (by kernel_rfl) nofun, .ofAgg (b := 16) (by kernel_rfl) (by kernel_rfl), .ofAgg (b := 32) (by kernel_rfl) (by kernel_rfl), .ofSl (te := 22) (b := 24) (by kernel_rfl) (by kernel_rfl) (by kernel_rfl) nofun, .ofSl (te := 3) (b := 24) (by kernel_rfl) (by kernel_rfl) (by kernel_rfl) (fun _ h => by cases h; kernel_rfl), trivial⟩
theorem fldOk : AllF Try.prog fldT :=
  ⟨⟨⟨by kernel_rfl, by kernel_rfl⟩, ⟨by kernel_rfl, by kernel_rfl⟩, ⟨by kernel_rfl, by kernel_rfl⟩, ⟨by kernel_rfl, by kernel_rfl⟩, ⟨by kernel_rfl, by kernel_rfl⟩, ⟨by kernel_rfl, by kernel_rfl⟩, ⟨by kernel_rfl, by kernel_rfl⟩, ⟨by kernel_rfl, by kernel_rfl⟩, ⟨by kernel_rfl, by kernel_rfl⟩, ⟨by kernel_rfl, by kernel_rfl⟩, ⟨by kernel_rfl, by kernel_rfl⟩, trivial⟩, ⟨⟨by kernel_rfl, by kernel_rfl⟩, ⟨by kernel_rfl, by kernel_rfl⟩, trivial⟩, ⟨⟨by kernel_rfl, by kernel_rfl⟩, ⟨by kernel_rfl, by kernel_rfl⟩, trivial⟩, trivial⟩
theorem mixed : Try.prog.follows .mixedOrders = true := by kernel_rfl
theorem bldOk : AllT (fun t i => i.agg = true → BldOk Try.prog t (fldOf fldT t)) tyT :=
  ⟨nofun, nofun, nofun, nofun, nofun, nofun, fun _ => bld_of (row := [(0, 1, false), (1, 1, false), (2, 1, false), (3, 1, false), (4, 1, false), (5, 1, false), (6, 1, false), (7, 1, false), (8, 1, false), (9, 1, false), (10, 1, false)]) rfl (by kernel_rfl) (by kernel_rfl), nofun, fun _ => bld_of (row := [(0, 1, false), (1, 1, false)]) rfl (by kernel_rfl) (by kernel_rfl), fun _ => bld_of (row := [(0, 1, false), (1, 1, false)]) rfl (by kernel_rfl) (by kernel_rfl), nofun, nofun, trivial⟩
theorem eqOkT : AllT (fun t i => hasK eqT t = true → EqOk Try.prog t i.ty) tyT :=
  ⟨fun h => absurd h (by decide), fun h => absurd h (by decide), fun h => absurd h (by decide), fun h => absurd h (by decide), fun h => absurd h (by decide), fun h => absurd h (by decide), fun h => absurd h (by decide), fun h => absurd h (by decide), fun _ => EqOk.of (n := 8) (by decide) (by kernel_rfl) (by kernel_rfl) (by kernel_rfl) (by kernel_rfl) (by kernel_rfl), fun h => absurd h (by decide), fun h => absurd h (by decide), fun h => absurd h (by decide), trivial⟩
theorem tysOk (tab : Tab) (hint : Nat → Hint) (rm : Rf.Mode) (pins : List (Bool × Nat)) (k : Nat) : TysOk Try.prog (env tab hint rm pins k) :=
  ⟨fun t i h => tyOk.get h, fun s f z h => fldOk.get h, fun t i h => bldOk.get h, fun t i h h2 => eqOkT.get h2 h, fun z hz => by obtain rfl := List.mem_singleton.1 hz; exact ⟨It.mkOk, It.itOk⟩⟩
theorem envOk {tab : Tab} (h : TabFn Try.prog tab) (hint : Nat → Hint) (rm : Rf.Mode) (pins : List (Bool × Nat)) (k : Nat) : EnvOk Try.prog (env tab hint rm pins k) := EnvOk.of (tysOk tab hint rm pins k) h
def noTab : Tab := fun _ _ => none
def noHint : Nat → Hint := fun _ => ⟨[], []⟩
/-! 41: loop.example/netstack/spec.l20Open -/
abbrev F41_E (k : Nat) : Env := env noTab noHint .own [] k
abbrev F41_a (a0 : List (den (.int .u8))) : List Arg := [.one (.l (.s .ro (.int .u8) a0))]
def F41_r (r : List (den (.int .u8)) × Int) : A × List (List Leaf) := (.one (.ptr (.cell 0) 2 0), [[.s .ro (.int .u8) r.1, .v (.int .i64 r.2)]])
def F41_T {β : Type} (k : Nat) (a0 : List (den (.int .u8))) (RET : (List (den (.int .u8)) × Int) → Option β) : Option β := cond (decide (((a0.length : Nat) : Int) > 2000)) (cond (decide (0 ≤ 2000) && decide (2000 ≤ ((a0.length : Nat) : Int))) (RET (a0.take 2000, 0)) none) (RET (a0, 0))
def F41 (k : Nat) (a0 : List (den (.int .u8))) : Option (List (den (.int .u8)) × Int) := F41_T k a0 some
theorem F41_st {β : Type} (k : Nat) (a0 : List (den (.int .u8))) (K : A × List (List Leaf) → Option β) : evalF (F41_E k) Try.f41 (F41_a a0) K =
    F41_T k a0 (fun r => K (F41_r r)) := by kernel_rfl
theorem F41_ev {β : Type} (k : Nat) (a0 : List (den (.int .u8))) (K : A × List (List Leaf) → Option β) : evalF (F41_E k) Try.f41 (F41_a a0) K = (F41 k a0).bind fun r => K (F41_r r) := by
  rw [F41_st, F41]
  simp only [F41_T, bind_cond, Option.bind_assoc, Option.bind_some, Option.bind_none, Option.bind_fun_some]
theorem F41_con (k : Nat) (a0 : List (den (.int .u8))) : Contract Try.prog 41 (F41_a a0) ⟨F41 k a0, F41_r⟩ := con_of (envOk .none _ _ _ _) mixed Try.func41 rfl rfl (F41_ev k a0 some)
def F41_sh : List AK := [.one (.l (.sl .ro (.int .u8)))]
def F41_p (k : Nat) : List Arg → Option CR := cle F41_sh fun x => ⟨F41 k x.1, F41_r⟩
theorem F41_q (k : Nat) : ∀ xs cr, F41_p k xs = some cr → Contract Try.prog 41 xs cr := cle_ok fun x => F41_con k _
theorem F41_f : FnOk Try.prog 41 := .of (by kernel_rfl)
/-! 43: (*loop.example/netstack/spec.l20Rd).pick -/
abbrev F43_E (k : Nat) : Env := env noTab noHint .own [(false, 0), (false, 1)] k
abbrev F43_a (a0_0 : List (den (.int .u8))) (a0_1 a1 : Int) : List Arg := [.one (.p [.s .ro (.int .u8) a0_0, .v (.int .i64 a0_1)]), .one (.l (.v (.int .i64 a1)))]
def F43_r (r : Int × List (den (.int .u8)) × Int) : A × List (List Leaf) := (.one (.v (.int .i64 r.1)), [[.s .ro (.int .u8) r.2.1, .v (.int .i64 r.2.2)]])
def F43_T {β : Type} (k : Nat) (a0_0 : List (den (.int .u8))) (a0_1 a1 : Int) (RET : (Int × List (den (.int .u8)) × Int) → Option β) : Option β := cond (decide (a1 < 1)) (RET (0, a0_0, IntKind.i64.wrap (a0_1 + 1))) (cond (((a0_0.length : Nat) : Int) == 0) (RET (0, a0_0, IntKind.i64.wrap (a0_1 + 1))) (cond (decide ((IntKind.i64.wrap ((IntKind.i64.wrap (a0_1 + 1)) - 1)) < ((a0_0.length : Nat) : Int))) (cond (decide (0 ≤ (IntKind.i64.wrap ((IntKind.i64.wrap (a0_1 + 1)) - 1)))) (cond (decide ((IntKind.i64.wrap ((IntKind.i64.wrap (a0_1 + 1)) - 1)) < ((a0_0.length : Nat) : Int))) (cond (decide (a1 = 0)) none (RET (((IntKind.i64.wrap (atI a0_0 (IntKind.i64.wrap ((IntKind.i64.wrap (a0_1 + 1)) - 1)))).tmod a1), a0_0, IntKind.i64.wrap (a0_1 + 1)))) none) none) (cond (decide (((a0_0.length : Nat) : Int) = 0)) none (cond (decide (0 ≤ ((IntKind.i64.wrap ((IntKind.i64.wrap (a0_1 + 1)) - 1)).tmod ((a0_0.length : Nat) : Int)))) (cond (decide (((IntKind.i64.wrap ((IntKind.i64.wrap (a0_1 + 1)) - 1)).tmod ((a0_0.length : Nat) : Int)) < ((a0_0.length : Nat) : Int))) (cond (decide (((a0_0.length : Nat) : Int) = 0)) none (cond (decide (0 ≤ ((IntKind.i64.wrap ((IntKind.i64.wrap ((IntKind.i64.wrap ((IntKind.i64.wrap (a0_1 + 1)) - 1)) * 7)) + 3)).tmod ((a0_0.length : Nat) : Int)))) (cond (decide (((IntKind.i64.wrap ((IntKind.i64.wrap ((IntKind.i64.wrap ((IntKind.i64.wrap (a0_1 + 1)) - 1)) * 7)) + 3)).tmod ((a0_0.length : Nat) : Int)) < ((a0_0.length : Nat) : Int))) (cond (decide (((a0_0.length : Nat) : Int) = 0)) none (cond (decide (a1 = 0)) none (RET (((bitsOf .xor .i64 (IntKind.i64.wrap ((IntKind.i64.wrap ((IntKind.i64.wrap ((IntKind.i64.wrap ((IntKind.i64.wrap (atI a0_0 ((IntKind.i64.wrap ((IntKind.i64.wrap (a0_1 + 1)) - 1)).tmod ((a0_0.length : Nat) : Int)))) * 131)) + (IntKind.i64.wrap ((IntKind.i64.wrap (atI a0_0 ((IntKind.i64.wrap ((IntKind.i64.wrap ((IntKind.i64.wrap ((IntKind.i64.wrap (a0_1 + 1)) - 1)) * 7)) + 3)).tmod ((a0_0.length : Nat) : Int)))) * 1117)))) + (IntKind.i64.wrap ((IntKind.i64.wrap ((IntKind.i64.wrap (a0_1 + 1)) - 1)) * 29)))) + (IntKind.i64.wrap ((IntKind.i64.wrap ((IntKind.i64.wrap ((IntKind.i64.wrap (a0_1 + 1)) - 1)).tdiv ((a0_0.length : Nat) : Int))) * 53)))) (IntKind.i64.wrap ((IntKind.i64.wrap ((IntKind.i64.wrap ((IntKind.i64.wrap ((IntKind.i64.wrap ((IntKind.i64.wrap (atI a0_0 ((IntKind.i64.wrap ((IntKind.i64.wrap (a0_1 + 1)) - 1)).tmod ((a0_0.length : Nat) : Int)))) * 131)) + (IntKind.i64.wrap ((IntKind.i64.wrap (atI a0_0 ((IntKind.i64.wrap ((IntKind.i64.wrap ((IntKind.i64.wrap ((IntKind.i64.wrap (a0_1 + 1)) - 1)) * 7)) + 3)).tmod ((a0_0.length : Nat) : Int)))) * 1117)))) + (IntKind.i64.wrap ((IntKind.i64.wrap ((IntKind.i64.wrap (a0_1 + 1)) - 1)) * 29)))) + (IntKind.i64.wrap ((IntKind.i64.wrap ((IntKind.i64.wrap ((IntKind.i64.wrap (a0_1 + 1)) - 1)).tdiv ((a0_0.length : Nat) : Int))) * 53)))).tdiv 64))).tmod a1), a0_0, IntKind.i64.wrap (a0_1 + 1))))) none) none)) none) none))))
def F43 (k : Nat) (a0_0 : List (den (.int .u8))) (a0_1 a1 : Int) : Option (Int × List (den (.int .u8)) × Int) := F43_T k a0_0 a0_1 a1 some
theorem F43_st {β : Type} (k : Nat) (a0_0 : List (den (.int .u8))) (a0_1 a1 : Int) (K : A × List (List Leaf) → Option β) : evalF (F43_E k) Try.f43 (F43_a a0_0 a0_1 a1) K =
    F43_T k a0_0 a0_1 a1 (fun r => K (F43_r r)) := by kernel_rfl
theorem F43_ev {β : Type} (k : Nat) (a0_0 : List (den (.int .u8))) (a0_1 a1 : Int) (K : A × List (List Leaf) → Option β) : evalF (F43_E k) Try.f43 (F43_a a0_0 a0_1 a1) K = (F43 k a0_0 a0_1 a1).bind fun r => K (F43_r r) := by
  rw [F43_st, F43]
  simp only [F43_T, bind_cond, Option.bind_assoc, Option.bind_some, Option.bind_none, Option.bind_fun_some]
theorem F43_con (k : Nat) (a0_0 : List (den (.int .u8))) (a0_1 a1 : Int) : Contract Try.prog 43 (F43_a a0_0 a0_1 a1) ⟨F43 k a0_0 a0_1 a1, F43_r⟩ := con_of (envOk .none _ _ _ _) mixed Try.func43 rfl rfl (F43_ev k a0_0 a0_1 a1 some)
def F43_sh : List AK := [.p [.sl .ro (.int .u8), .int .i64], .one (.l (.int .i64))]
def F43_p (k : Nat) : List Arg → Option CR := cle F43_sh fun x => ⟨F43 k x.1.1 x.1.2.1 x.2.1, F43_r⟩
theorem F43_q (k : Nat) : ∀ xs cr, F43_p k xs = some cr → Contract Try.prog 43 xs cr := cle_ok fun x => F43_con k _ _ _
theorem F43_f : FnOk Try.prog 43 := .of (by kernel_rfl)
/-! 85: (*loop.example/netstack/spec.l20Rd).seq -/
def F85_t (k : Nat) : Tab := entT 43 (F43_p k) <| noTab
abbrev F85_E (k : Nat) : Env := env (F85_t k) noHint .own [(false, 0), (false, 1)] k
abbrev F85_a (a0_0 : List (den (.int .u8))) (a0_1 : Int) : List Arg := [.one (.p [.s .ro (.int .u8) a0_0, .v (.int .i64 a0_1)])]
def F85_r (r : Int × List (den (.int .u8)) × Int) : A × List (List Leaf) := (.one (.v (.int .i64 r.1)), [[.s .ro (.int .u8) r.2.1, .v (.int .i64 r.2.2)]])
def F85_T {β : Type} (k : Nat) (a0_0 : List (den (.int .u8))) (a0_1 : Int) (RET : (Int × List (den (.int .u8)) × Int) → Option β) : Option β := (F43 k a0_0 a0_1 9).bind fun b1 => (F43 k b1.2.1 b1.2.2 9).bind fun b2 => (F43 k b2.2.1 b2.2.2 5).bind fun b3 => (F43 k b3.2.1 b3.2.2 256).bind fun b4 => (F43 k b4.2.1 b4.2.2 256).bind fun b5 => (F43 k b5.2.1 b5.2.2 4).bind fun b6 => cond (decide (0 ≤ b6.1)) (cond (decide (b6.1 < (([b1.1, IntKind.i64.wrap (65535 - b2.1), IntKind.i64.wrap ((IntKind.i64.wrap (32768 + b3.1)) - 2), IntKind.i64.wrap ((IntKind.i64.wrap (b4.1 * 256)) + b5.1)].length : Nat) : Int))) (RET (atI (t := (.int .i64)) [b1.1, IntKind.i64.wrap (65535 - b2.1), IntKind.i64.wrap ((IntKind.i64.wrap (32768 + b3.1)) - 2), IntKind.i64.wrap ((IntKind.i64.wrap (b4.1 * 256)) + b5.1)] b6.1, b6.2.1, b6.2.2)) none) none
def F85 (k : Nat) (a0_0 : List (den (.int .u8))) (a0_1 : Int) : Option (Int × List (den (.int .u8)) × Int) := F85_T k a0_0 a0_1 some
theorem F85_st {β : Type} (k : Nat) (a0_0 : List (den (.int .u8))) (a0_1 : Int) (K : A × List (List Leaf) → Option β) : evalF (F85_E k) Try.f85 (F85_a a0_0 a0_1) K =
    F85_T k a0_0 a0_1 (fun r => K (F85_r r)) := by kernel_rfl
theorem F85_ev {β : Type} (k : Nat) (a0_0 : List (den (.int .u8))) (a0_1 : Int) (K : A × List (List Leaf) → Option β) : evalF (F85_E k) Try.f85 (F85_a a0_0 a0_1) K = (F85 k a0_0 a0_1).bind fun r => K (F85_r r) := by
  rw [F85_st, F85]
  simp only [F85_T, bind_cond, Option.bind_assoc, Option.bind_some, Option.bind_none, Option.bind_fun_some]
theorem F85_tOk (k : Nat) : TabFn Try.prog (F85_t k) := .ent (F43_q k) F43_f (.none)
theorem F85_con (k : Nat) (a0_0 : List (den (.int .u8))) (a0_1 : Int) : Contract Try.prog 85 (F85_a a0_0 a0_1) ⟨F85 k a0_0 a0_1, F85_r⟩ := con_of (envOk (F85_tOk k) _ _ _ _) mixed Try.func85 rfl rfl (F85_ev k a0_0 a0_1 some)
def F85_sh : List AK := [.p [.sl .ro (.int .u8), .int .i64]]
def F85_p (k : Nat) : List Arg → Option CR := cle F85_sh fun x => ⟨F85 k x.1.1 x.1.2.1, F85_r⟩
theorem F85_q (k : Nat) : ∀ xs cr, F85_p k xs = some cr → Contract Try.prog 85 xs cr := cle_ok fun x => F85_con k _ _
theorem F85_f : FnOk Try.prog 85 := .of (by kernel_rfl)
/-! 44: (*loop.example/netstack/spec.l20Rd).bytes -/
def F44_h : Nat → Hint
  | 0 => ⟨[(0, .plain), (1, .plain), (5, .own .own (.int .u8) [])], [(0, .plain), (1, .plain)]⟩
  | _ => ⟨[], []⟩
def F44_t (k : Nat) : Tab := entT 43 (F43_p k) <| noTab
abbrev F44_E (k : Nat) : Env := env (F44_t k) F44_h .own [(false, 0), (false, 1)] k
abbrev F44_a (a0_0 : List (den (.int .u8))) (a0_1 a1 : Int) : List Arg := [.one (.p [.s .ro (.int .u8) a0_0, .v (.int .i64 a0_1)]), .one (.l (.v (.int .i64 a1)))]
def F44_r (r : List (den (.int .u8)) × List (den (.int .u8)) × Int) : A × List (List Leaf) := (.one (.s .own (.int .u8) r.1), [[.s .ro (.int .u8) r.2.1, .v (.int .i64 r.2.2)]])
def F44_s0 (a0_0 : List (den (.int .u8))) (a0_1 a1 : Int) (x1_0 : Int) (m0_0 : List (den (.int .u8))) (m1_0 : Int) (m5900_0 : List (den (.int .u8))) : St := ⟨(.one (.ptr (.cell 0) 2 0)) :: (.one (.v (.int .i64 x1_0))) :: dz 3 ((.one (.a (.cell 5900) 0 0 none)) :: dz 22 []), [(0, ⟨.s .ro (.int .u8) m0_0, 0, 0⟩), (1, ⟨.v (.int .i64 m1_0), 0, 0⟩), (5900, ⟨.s .own (.int .u8) m5900_0, 0, 0⟩)]⟩
def F44_l0_T {β : Type} (k : Nat) (a0_0 : List (den (.int .u8))) (a0_1 a1 : Int) (NX : Int → List (den (.int .u8)) → Int → List (den (.int .u8)) → Option β) (RET : (List (den (.int .u8)) × List (den (.int .u8)) × Int) → Option β) (x1_0 : Int) (m0_0 : List (den (.int .u8))) (m1_0 : Int) (m5900_0 : List (den (.int .u8))) : Option β := cond (decide (x1_0 > 0)) ((F43 k m0_0 m1_0 3).bind fun b1 => cond (b1.1 == 0) ((F43 k b1.2.1 b1.2.2 256).bind fun b2 => cond (decide ((m5900_0.length + [IntKind.u8.wrap (b2.1)].length) * 1 ≤ 140737488355328)) (NX (IntKind.i64.wrap (x1_0 - 1)) b2.2.1 b2.2.2 (m5900_0 ++ [IntKind.u8.wrap (b2.1)])) none) ((F43 k b1.2.1 b1.2.2 3).bind fun b3 => cond (decide ((m5900_0.length + [IntKind.u8.wrap (IntKind.i64.wrap (b3.1 + 97))].length) * 1 ≤ 140737488355328)) (NX (IntKind.i64.wrap (x1_0 - 1)) b3.2.1 b3.2.2 (m5900_0 ++ [IntKind.u8.wrap (IntKind.i64.wrap (b3.1 + 97))])) none)) (RET (m5900_0, m0_0, m1_0))
def F44_l0 (k : Nat) (a0_0 : List (den (.int .u8))) (a0_1 a1 : Int) : Nat → Int → List (den (.int .u8)) → Int → List (den (.int .u8)) → Option (List (den (.int .u8)) × List (den (.int .u8)) × Int)
  | 0, _, _, _, _ => none
  | n + 1, x1_0, m0_0, m1_0, m5900_0 => F44_l0_T k a0_0 a0_1 a1 (fun x1_0 m0_0 m1_0 m5900_0 => F44_l0 k a0_0 a0_1 a1 n x1_0 m0_0 m1_0 m5900_0) some x1_0 m0_0 m1_0 m5900_0
theorem F44_l0_rd {β : Type} (k n : Nat) (a0_0 : List (den (.int .u8))) (a0_1 a1 : Int) (x1_0 : Int) (m0_0 : List (den (.int .u8))) (m1_0 : Int) (m5900_0 : List (den (.int .u8))) (K : A × List (List Leaf) → Option β) :
    loopG (F44_E k) Try.f44 [1, 1, 0, 0] 0 (kontAt (F44_E k) [1, 1, 0, 0] (bodyOf Try.f44) 0 (endC (F44_E k) Try.f44 (F44_a a0_0 a0_1 a1) K)) (n + 1) (F44_s0 a0_0 a0_1 a1 x1_0 m0_0 m1_0 m5900_0) =
    F44_l0_T k a0_0 a0_1 a1 (fun x1_0 m0_0 m1_0 m5900_0 => loopG (F44_E k) Try.f44 [1, 1, 0, 0] 0 (kontAt (F44_E k) [1, 1, 0, 0] (bodyOf Try.f44) 0 (endC (F44_E k) Try.f44 (F44_a a0_0 a0_1 a1) K)) n (F44_s0 a0_0 a0_1 a1 x1_0 m0_0 m1_0 m5900_0)) (fun r => K (F44_r r)) x1_0 m0_0 m1_0 m5900_0 := by kernel_rfl
theorem F44_l0_lp {β : Type} (k : Nat) (a0_0 : List (den (.int .u8))) (a0_1 a1 : Int) (K : A × List (List Leaf) → Option β) (n : Nat) : ∀ (x1_0 : Int) (m0_0 : List (den (.int .u8))) (m1_0 : Int) (m5900_0 : List (den (.int .u8))), loopG (F44_E k) Try.f44 [1, 1, 0, 0] 0 (kontAt (F44_E k) [1, 1, 0, 0] (bodyOf Try.f44) 0 (endC (F44_E k) Try.f44 (F44_a a0_0 a0_1 a1) K)) n (F44_s0 a0_0 a0_1 a1 x1_0 m0_0 m1_0 m5900_0) =
    (F44_l0 k a0_0 a0_1 a1 n x1_0 m0_0 m1_0 m5900_0).bind fun r => K (F44_r r) := by
  induction n with
  | zero => intros; rfl
  | succ n ih =>
    intros
    rw [F44_l0_rd, F44_l0]
    simp only [F44_l0_T, bind_cond, Option.bind_assoc, Option.bind_some, Option.bind_none, Option.bind_fun_some, ih]
def F44_T {β : Type} (k : Nat) (a0_0 : List (den (.int .u8))) (a0_1 a1 : Int) (LP0 : Int → List (den (.int .u8)) → Int → List (den (.int .u8)) → Option β) : Option β := LP0 a1 a0_0 a0_1 []
def F44 (k : Nat) (a0_0 : List (den (.int .u8))) (a0_1 a1 : Int) : Option (List (den (.int .u8)) × List (den (.int .u8)) × Int) := F44_T k a0_0 a0_1 a1 (fun x1_0 m0_0 m1_0 m5900_0 => F44_l0 k a0_0 a0_1 a1 k x1_0 m0_0 m1_0 m5900_0)
theorem F44_st {β : Type} (k : Nat) (a0_0 : List (den (.int .u8))) (a0_1 a1 : Int) (K : A × List (List Leaf) → Option β) : evalF (F44_E k) Try.f44 (F44_a a0_0 a0_1 a1) K =
    F44_T k a0_0 a0_1 a1 (fun x1_0 m0_0 m1_0 m5900_0 => loopG (F44_E k) Try.f44 [1, 1, 0, 0] 0 (kontAt (F44_E k) [1, 1, 0, 0] (bodyOf Try.f44) 0 (endC (F44_E k) Try.f44 (F44_a a0_0 a0_1 a1) K)) k (F44_s0 a0_0 a0_1 a1 x1_0 m0_0 m1_0 m5900_0)) := by kernel_rfl
theorem F44_ev {β : Type} (k : Nat) (a0_0 : List (den (.int .u8))) (a0_1 a1 : Int) (K : A × List (List Leaf) → Option β) : evalF (F44_E k) Try.f44 (F44_a a0_0 a0_1 a1) K = (F44 k a0_0 a0_1 a1).bind fun r => K (F44_r r) := by
  rw [F44_st, F44]
  simp only [F44_T, bind_cond, Option.bind_assoc, Option.bind_some, Option.bind_none, Option.bind_fun_some, F44_l0_lp]
theorem F44_tOk (k : Nat) : TabFn Try.prog (F44_t k) := .ent (F43_q k) F43_f (.none)
theorem F44_con (k : Nat) (a0_0 : List (den (.int .u8))) (a0_1 a1 : Int) : Contract Try.prog 44 (F44_a a0_0 a0_1 a1) ⟨F44 k a0_0 a0_1 a1, F44_r⟩ := con_of (envOk (F44_tOk k) _ _ _ _) mixed Try.func44 rfl rfl (F44_ev k a0_0 a0_1 a1 some)
def F44_sh : List AK := [.p [.sl .ro (.int .u8), .int .i64], .one (.l (.int .i64))]
def F44_p (k : Nat) : List Arg → Option CR := cle F44_sh fun x => ⟨F44 k x.1.1 x.1.2.1 x.2.1, F44_r⟩
theorem F44_q (k : Nat) : ∀ xs cr, F44_p k xs = some cr → Contract Try.prog 44 xs cr := cle_ok fun x => F44_con k _ _ _
theorem F44_f : FnOk Try.prog 44 := .of (by kernel_rfl)
/-! 86: (*loop.example/netstack/spec.l20Rd).odd -/
def F86_t (k : Nat) : Tab := entT 43 (F43_p k) <| noTab
abbrev F86_E (k : Nat) : Env := env (F86_t k) noHint .own [(false, 0), (false, 1)] k
abbrev F86_a (a0_0 : List (den (.int .u8))) (a0_1 a1 : Int) : List Arg := [.one (.p [.s .ro (.int .u8) a0_0, .v (.int .i64 a0_1)]), .one (.l (.v (.int .i64 a1)))]
def F86_r (r : Bool × List (den (.int .u8)) × Int) : A × List (List Leaf) := (.one (.v (.bool r.1)), [[.s .ro (.int .u8) r.2.1, .v (.int .i64 r.2.2)]])
def F86_T {β : Type} (k : Nat) (a0_0 : List (den (.int .u8))) (a0_1 a1 : Int) (RET : (Bool × List (den (.int .u8)) × Int) → Option β) : Option β := cond (decide (a1 > 0)) ((F43 k a0_0 a0_1 a1).bind fun b1 => RET ((b1.1 == (IntKind.i64.wrap (a1 - 1))), b1.2.1, b1.2.2)) (RET (false, a0_0, a0_1))
def F86 (k : Nat) (a0_0 : List (den (.int .u8))) (a0_1 a1 : Int) : Option (Bool × List (den (.int .u8)) × Int) := F86_T k a0_0 a0_1 a1 some
theorem F86_st {β : Type} (k : Nat) (a0_0 : List (den (.int .u8))) (a0_1 a1 : Int) (K : A × List (List Leaf) → Option β) : evalF (F86_E k) Try.f86 (F86_a a0_0 a0_1 a1) K =
    F86_T k a0_0 a0_1 a1 (fun r => K (F86_r r)) := by kernel_rfl
theorem F86_ev {β : Type} (k : Nat) (a0_0 : List (den (.int .u8))) (a0_1 a1 : Int) (K : A × List (List Leaf) → Option β) : evalF (F86_E k) Try.f86 (F86_a a0_0 a0_1 a1) K = (F86 k a0_0 a0_1 a1).bind fun r => K (F86_r r) := by
  rw [F86_st, F86]
  simp only [F86_T, bind_cond, Option.bind_assoc, Option.bind_some, Option.bind_none, Option.bind_fun_some]
theorem F86_tOk (k : Nat) : TabFn Try.prog (F86_t k) := .ent (F43_q k) F43_f (.none)
theorem F86_con (k : Nat) (a0_0 : List (den (.int .u8))) (a0_1 a1 : Int) : Contract Try.prog 86 (F86_a a0_0 a0_1 a1) ⟨F86 k a0_0 a0_1 a1, F86_r⟩ := con_of (envOk (F86_tOk k) _ _ _ _) mixed Try.func86 rfl rfl (F86_ev k a0_0 a0_1 a1 some)
def F86_sh : List AK := [.p [.sl .ro (.int .u8), .int .i64], .one (.l (.int .i64))]
def F86_p (k : Nat) : List Arg → Option CR := cle F86_sh fun x => ⟨F86 k x.1.1 x.1.2.1 x.2.1, F86_r⟩
theorem F86_q (k : Nat) : ∀ xs cr, F86_p k xs = some cr → Contract Try.prog 86 xs cr := cle_ok fun x => F86_con k _ _ _
theorem F86_f : FnOk Try.prog 86 := .of (by kernel_rfl)
/-! 42: loop.example/netstack/spec.l20Segment -/
def F42_h : Nat → Hint
  | 0 => ⟨[(0, .plain), (1, .plain), (4, .plain), (5, .plain), (6, .plain)], [(0, .plain), (1, .plain), (4000, .plain), (4001, .plain), (4002, .plain), (4003, .plain), (4004, .plain), (4005, .plain), (4006, .plain), (4007, .plain), (4008, .plain), (4009, .plain), (4010, .plain), (5000, .plain), (5001, .plain), (5002, .plain), (5003, .plain), (5004, .plain), (5005, .plain), (5006, .plain), (5007, .plain), (5008, .plain), (5009, .own .own rng []), (5010, .own .own (.int .u8) []), (18000, .plain)]⟩
  | _ => ⟨[], []⟩
def F42_t (k : Nat) : Tab := entT 43 (F43_p k) <| entT 85 (F85_p k) <| entT 44 (F44_p k) <| entT 86 (F86_p k) <| noTab
abbrev F42_E (k : Nat) : Env := env (F42_t k) F42_h .own [(false, 0), (false, 1)] k
abbrev F42_a (a0_0 : List (den (.int .u8))) (a0_1 a1 : Int) : List Arg := [.one (.p [.s .ro (.int .u8) a0_0, .v (.int .i64 a0_1)]), .one (.l (.v (.int .i64 a1)))]
def F42_r (r : Int × Int × Int × Int × Int × Bool × Bool × Bool × Bool × List (den rng) × List (den (.int .u8)) × List (den (.int .u8)) × Int) : A × List (List Leaf) := (.agg [.v (.int .i64 r.1), .v (.int .i64 r.2.1), .v (.int .i64 r.2.2.1), .v (.int .i64 r.2.2.2.1), .v (.int .i64 r.2.2.2.2.1), .v (.bool r.2.2.2.2.2.1), .v (.bool r.2.2.2.2.2.2.1), .v (.bool r.2.2.2.2.2.2.2.1), .v (.bool r.2.2.2.2.2.2.2.2.1), .s .own rng r.2.2.2.2.2.2.2.2.2.1, .s .own (.int .u8) r.2.2.2.2.2.2.2.2.2.2.1], [[.s .ro (.int .u8) r.2.2.2.2.2.2.2.2.2.2.2.1, .v (.int .i64 r.2.2.2.2.2.2.2.2.2.2.2.2)]])
def F42_s0 (a0_0 : List (den (.int .u8))) (a0_1 a1 : Int) (x6_0 : Int) (m0_0 : List (den (.int .u8))) (m1_0 m5000_0 m5001_0 m5002_0 m5003_0 m5004_0 : Int) (m5005_0 m5007_0 : Bool) (m5009_0 : List (den rng)) (m5010_0 : List (den (.int .u8))) : St := ⟨(.one (.ptr (.cell 0) 2 0)) :: (.one (.v (.int .i64 a1))) :: (.one .d) :: (.one .d) :: (.one (.ptr (.cell 4000) 11 0)) :: (.one (.ptr (.cell 5000) 11 0)) :: (.one (.v (.int .i64 x6_0))) :: dz 83 [], [(0, ⟨.s .ro (.int .u8) m0_0, 0, 0⟩), (1, ⟨.v (.int .i64 m1_0), 0, 0⟩), (4000, ⟨.v (.int .i64 0), 0, 0⟩), (4001, ⟨.v (.int .i64 0), 0, 0⟩), (4002, ⟨.v (.int .i64 0), 0, 0⟩), (4003, ⟨.v (.int .i64 0), 0, 0⟩), (4004, ⟨.v (.int .i64 0), 0, 0⟩), (4005, ⟨.v (.bool false), 0, 0⟩), (4006, ⟨.v (.bool false), 0, 0⟩), (4007, ⟨.v (.bool false), 0, 0⟩), (4008, ⟨.v (.bool false), 0, 0⟩), (4009, ⟨.s .own rng [], 0, 0⟩), (4010, ⟨.s .own (.int .u8) [], 0, 0⟩), (5000, ⟨.v (.int .i64 m5000_0), 0, 0⟩), (5001, ⟨.v (.int .i64 m5001_0), 0, 0⟩), (5002, ⟨.v (.int .i64 m5002_0), 0, 0⟩), (5003, ⟨.v (.int .i64 m5003_0), 0, 0⟩), (5004, ⟨.v (.int .i64 m5004_0), 0, 0⟩), (5005, ⟨.v (.bool m5005_0), 0, 0⟩), (5006, ⟨.v (.bool true), 0, 0⟩), (5007, ⟨.v (.bool m5007_0), 0, 0⟩), (5008, ⟨.v (.bool false), 0, 0⟩), (5009, ⟨.s .own rng m5009_0, 0, 0⟩), (5010, ⟨.s .own (.int .u8) m5010_0, 0, 0⟩), (18000, ⟨.d, 0, 0⟩)]⟩
def F42_l0_T {β : Type} (k : Nat) (a0_0 : List (den (.int .u8))) (a0_1 a1 : Int) (NX : Int → List (den (.int .u8)) → Int → Int → Int → Int → Int → Int → Bool → Bool → List (den rng) → List (den (.int .u8)) → Option β) (RET : (Int × Int × Int × Int × Int × Bool × Bool × Bool × Bool × List (den rng) × List (den (.int .u8)) × List (den (.int .u8)) × Int) → Option β) (x6_0 : Int) (m0_0 : List (den (.int .u8))) (m1_0 m5000_0 m5001_0 m5002_0 m5003_0 m5004_0 : Int) (m5005_0 m5007_0 : Bool) (m5009_0 : List (den rng)) (m5010_0 : List (den (.int .u8))) : Option β := cond (decide (x6_0 > 0)) ((F85 k m0_0 m1_0).bind fun b12 => (F85 k b12.2.1 b12.2.2).bind fun b13 => cond (decide ((m5009_0.length + [(b12.1, b13.1)].length) * 16 ≤ 140737488355328)) (NX (IntKind.i64.wrap (x6_0 - 1)) b13.2.1 b13.2.2 m5000_0 m5001_0 m5002_0 m5003_0 m5004_0 m5005_0 m5007_0 (m5009_0 ++ [(b12.1, b13.1)]) m5010_0) none) ((F43 k m0_0 m1_0 8).bind fun b14 => cond (b14.1 == 0) ((F86 k b14.2.1 b14.2.2 a1).bind fun b15 => cond b15.1 ((F43 k b15.2.1 b15.2.2 4).bind fun b16 => cond (b16.1 == 0) ((F43 k b16.2.1 b16.2.2 2).bind fun b17 => RET (IntKind.i64.wrap (b17.1 * 256), m5001_0, m5002_0, m5003_0, m5004_0, false, true, false, true, m5009_0, [], b17.2.1, b17.2.2)) (cond (b16.1 == 1) ((F43 k b16.2.1 b16.2.2 2).bind fun b18 => RET (m5000_0, m5001_0, IntKind.i64.wrap (65536 - (IntKind.i64.wrap (b18.1 * 65540))), m5003_0, m5004_0, false, true, false, true, m5009_0, [], b18.2.1, b18.2.2)) (cond (b16.1 == 2) (RET (m5000_0, m5001_0, m5002_0, 4, m5004_0, false, false, false, true, m5009_0, [], b16.2.1, b16.2.2)) ((F43 k b16.2.1 b16.2.2 14).bind fun b19 => cond (decide (0 ≤ b19.1) && decide (b19.1 = b19.1) && decide (b19.1 * (1 : Nat) ≤ 140737488355328)) (RET (m5000_0, m5001_0, m5002_0, m5003_0, m5004_0, false, true, false, true, m5009_0, List.replicate b19.1.toNat (dflt (.int .u8)), b19.2.1, b19.2.2)) none)))) (RET (m5000_0, m5001_0, m5002_0, m5003_0, m5004_0, false, true, false, true, m5009_0, [], b15.2.1, b15.2.2))) ((F86 k b14.2.1 b14.2.2 a1).bind fun b20 => cond b20.1 ((F43 k b20.2.1 b20.2.2 4).bind fun b21 => cond (b21.1 == 0) ((F43 k b21.2.1 b21.2.2 2).bind fun b22 => RET (IntKind.i64.wrap (b22.1 * 256), m5001_0, m5002_0, m5003_0, m5004_0, m5005_0, true, m5007_0, false, m5009_0, m5010_0, b22.2.1, b22.2.2)) (cond (b21.1 == 1) ((F43 k b21.2.1 b21.2.2 2).bind fun b23 => RET (m5000_0, m5001_0, IntKind.i64.wrap (65536 - (IntKind.i64.wrap (b23.1 * 65540))), m5003_0, m5004_0, m5005_0, true, m5007_0, false, m5009_0, m5010_0, b23.2.1, b23.2.2)) (cond (b21.1 == 2) (RET (m5000_0, m5001_0, m5002_0, 4, m5004_0, m5005_0, false, m5007_0, false, m5009_0, m5010_0, b21.2.1, b21.2.2)) ((F43 k b21.2.1 b21.2.2 14).bind fun b24 => cond (decide (0 ≤ b24.1) && decide (b24.1 = b24.1) && decide (b24.1 * (1 : Nat) ≤ 140737488355328)) (RET (m5000_0, m5001_0, m5002_0, m5003_0, m5004_0, m5005_0, true, m5007_0, true, m5009_0, List.replicate b24.1.toNat (dflt (.int .u8)), b24.2.1, b24.2.2)) none)))) (RET (m5000_0, m5001_0, m5002_0, m5003_0, m5004_0, m5005_0, true, m5007_0, false, m5009_0, m5010_0, b20.2.1, b20.2.2))))
def F42_l0 (k : Nat) (a0_0 : List (den (.int .u8))) (a0_1 a1 : Int) : Nat → Int → List (den (.int .u8)) → Int → Int → Int → Int → Int → Int → Bool → Bool → List (den rng) → List (den (.int .u8)) → Option (Int × Int × Int × Int × Int × Bool × Bool × Bool × Bool × List (den rng) × List (den (.int .u8)) × List (den (.int .u8)) × Int)
  | 0, _, _, _, _, _, _, _, _, _, _, _, _ => none
  | n + 1, x6_0, m0_0, m1_0, m5000_0, m5001_0, m5002_0, m5003_0, m5004_0, m5005_0, m5007_0, m5009_0, m5010_0 => F42_l0_T k a0_0 a0_1 a1 (fun x6_0 m0_0 m1_0 m5000_0 m5001_0 m5002_0 m5003_0 m5004_0 m5005_0 m5007_0 m5009_0 m5010_0 => F42_l0 k a0_0 a0_1 a1 n x6_0 m0_0 m1_0 m5000_0 m5001_0 m5002_0 m5003_0 m5004_0 m5005_0 m5007_0 m5009_0 m5010_0) some x6_0 m0_0 m1_0 m5000_0 m5001_0 m5002_0 m5003_0 m5004_0 m5005_0 m5007_0 m5009_0 m5010_0
theorem F42_l0_rd {β : Type} (k n : Nat) (a0_0 : List (den (.int .u8))) (a0_1 a1 : Int) (x6_0 : Int) (m0_0 : List (den (.int .u8))) (m1_0 m5000_0 m5001_0 m5002_0 m5003_0 m5004_0 : Int) (m5005_0 m5007_0 : Bool) (m5009_0 : List (den rng)) (m5010_0 : List (den (.int .u8))) (K : A × List (List Leaf) → Option β) :
    loopG (F42_E k) Try.f42 [1, 1, 0, 1, 0, 1, 1, 1, 1, 0] 0 (kontAt (F42_E k) [1, 1, 0, 1, 0, 1, 1, 1, 1, 0] (bodyOf Try.f42) 0 (endC (F42_E k) Try.f42 (F42_a a0_0 a0_1 a1) K)) (n + 1) (F42_s0 a0_0 a0_1 a1 x6_0 m0_0 m1_0 m5000_0 m5001_0 m5002_0 m5003_0 m5004_0 m5005_0 m5007_0 m5009_0 m5010_0) =
    F42_l0_T k a0_0 a0_1 a1 (fun x6_0 m0_0 m1_0 m5000_0 m5001_0 m5002_0 m5003_0 m5004_0 m5005_0 m5007_0 m5009_0 m5010_0 => loopG (F42_E k) Try.f42 [1, 1, 0, 1, 0, 1, 1, 1, 1, 0] 0 (kontAt (F42_E k) [1, 1, 0, 1, 0, 1, 1, 1, 1, 0] (bodyOf Try.f42) 0 (endC (F42_E k) Try.f42 (F42_a a0_0 a0_1 a1) K)) n (F42_s0 a0_0 a0_1 a1 x6_0 m0_0 m1_0 m5000_0 m5001_0 m5002_0 m5003_0 m5004_0 m5005_0 m5007_0 m5009_0 m5010_0)) (fun r => K (F42_r r)) x6_0 m0_0 m1_0 m5000_0 m5001_0 m5002_0 m5003_0 m5004_0 m5005_0 m5007_0 m5009_0 m5010_0 := by kernel_rfl
theorem F42_l0_lp {β : Type} (k : Nat) (a0_0 : List (den (.int .u8))) (a0_1 a1 : Int) (K : A × List (List Leaf) → Option β) (n : Nat) : ∀ (x6_0 : Int) (m0_0 : List (den (.int .u8))) (m1_0 m5000_0 m5001_0 m5002_0 m5003_0 m5004_0 : Int) (m5005_0 m5007_0 : Bool) (m5009_0 : List (den rng)) (m5010_0 : List (den (.int .u8))), loopG (F42_E k) Try.f42 [1, 1, 0, 1, 0, 1, 1, 1, 1, 0] 0 (kontAt (F42_E k) [1, 1, 0, 1, 0, 1, 1, 1, 1, 0] (bodyOf Try.f42) 0 (endC (F42_E k) Try.f42 (F42_a a0_0 a0_1 a1) K)) n (F42_s0 a0_0 a0_1 a1 x6_0 m0_0 m1_0 m5000_0 m5001_0 m5002_0 m5003_0 m5004_0 m5005_0 m5007_0 m5009_0 m5010_0) =
    (F42_l0 k a0_0 a0_1 a1 n x6_0 m0_0 m1_0 m5000_0 m5001_0 m5002_0 m5003_0 m5004_0 m5005_0 m5007_0 m5009_0 m5010_0).bind fun r => K (F42_r r) := by
  induction n with
  | zero => intros; rfl
  | succ n ih =>
    intros
    rw [F42_l0_rd, F42_l0]
    simp only [F42_l0_T, bind_cond, Option.bind_assoc, Option.bind_some, Option.bind_none, Option.bind_fun_some, ih]
def F42_T {β : Type} (k : Nat) (a0_0 : List (den (.int .u8))) (a0_1 a1 : Int) (LP0 : Int → List (den (.int .u8)) → Int → Int → Int → Int → Int → Int → Bool → Bool → List (den rng) → List (den (.int .u8)) → Option β) (RET : (Int × Int × Int × Int × Int × Bool × Bool × Bool × Bool × List (den rng) × List (den (.int .u8)) × List (den (.int .u8)) × Int) → Option β) : Option β := (F43 k a0_0 a0_1 3).bind fun b1 => (F43 k b1.2.1 b1.2.2 3).bind fun b2 => (F85 k b2.2.1 b2.2.2).bind fun b3 => (F43 k b3.2.1 b3.2.2 5).bind fun b4 => (F44 k b4.2.1 b4.2.2 b4.1).bind fun b5 => (F43 k b5.2.1 b5.2.2 4).bind fun b6 => (F43 k b6.2.1 b6.2.2 4).bind fun b7 => (F43 k b7.2.1 b7.2.2 4).bind fun b8 => cond (decide (b8.1 > 0)) ((F85 k b8.2.1 b8.2.2).bind fun b9 => (F43 k b9.2.1 b9.2.2 40).bind fun b10 => (F43 k b10.2.1 b10.2.2 3).bind fun b11 => LP0 b11.1 b11.2.1 b11.2.2 (IntKind.i64.wrap (1 + b1.1)) (IntKind.i64.wrap (1 + b2.1)) b3.1 b9.1 b10.1 (b6.1 == 0) (b7.1 == 0) [] b5.1) ((F43 k b8.2.1 b8.2.2 8).bind fun b25 => cond (b25.1 == 0) ((F86 k b25.2.1 b25.2.2 a1).bind fun b26 => cond b26.1 ((F43 k b26.2.1 b26.2.2 4).bind fun b27 => cond (b27.1 == 0) ((F43 k b27.2.1 b27.2.2 2).bind fun b28 => RET (IntKind.i64.wrap (b28.1 * 256), IntKind.i64.wrap (1 + b2.1), b3.1, 0, 0, false, false, false, true, [], [], b28.2.1, b28.2.2)) (cond (b27.1 == 1) ((F43 k b27.2.1 b27.2.2 2).bind fun b29 => RET (IntKind.i64.wrap (1 + b1.1), IntKind.i64.wrap (1 + b2.1), IntKind.i64.wrap (65536 - (IntKind.i64.wrap (b29.1 * 65540))), 0, 0, false, false, false, true, [], [], b29.2.1, b29.2.2)) (cond (b27.1 == 2) (RET (IntKind.i64.wrap (1 + b1.1), IntKind.i64.wrap (1 + b2.1), b3.1, 4, 0, false, true, false, true, [], [], b27.2.1, b27.2.2)) ((F43 k b27.2.1 b27.2.2 14).bind fun b30 => cond (decide (0 ≤ b30.1) && decide (b30.1 = b30.1) && decide (b30.1 * (1 : Nat) ≤ 140737488355328)) (RET (IntKind.i64.wrap (1 + b1.1), IntKind.i64.wrap (1 + b2.1), b3.1, 0, 0, false, false, false, true, [], List.replicate b30.1.toNat (dflt (.int .u8)), b30.2.1, b30.2.2)) none)))) (RET (IntKind.i64.wrap (1 + b1.1), IntKind.i64.wrap (1 + b2.1), b3.1, 0, 0, false, false, false, true, [], [], b26.2.1, b26.2.2))) ((F86 k b25.2.1 b25.2.2 a1).bind fun b31 => cond b31.1 ((F43 k b31.2.1 b31.2.2 4).bind fun b32 => cond (b32.1 == 0) ((F43 k b32.2.1 b32.2.2 2).bind fun b33 => RET (IntKind.i64.wrap (b33.1 * 256), IntKind.i64.wrap (1 + b2.1), b3.1, 0, 0, (b6.1 == 0), false, (b7.1 == 0), false, [], b5.1, b33.2.1, b33.2.2)) (cond (b32.1 == 1) ((F43 k b32.2.1 b32.2.2 2).bind fun b34 => RET (IntKind.i64.wrap (1 + b1.1), IntKind.i64.wrap (1 + b2.1), IntKind.i64.wrap (65536 - (IntKind.i64.wrap (b34.1 * 65540))), 0, 0, (b6.1 == 0), false, (b7.1 == 0), false, [], b5.1, b34.2.1, b34.2.2)) (cond (b32.1 == 2) (RET (IntKind.i64.wrap (1 + b1.1), IntKind.i64.wrap (1 + b2.1), b3.1, 4, 0, (b6.1 == 0), true, (b7.1 == 0), false, [], b5.1, b32.2.1, b32.2.2)) ((F43 k b32.2.1 b32.2.2 14).bind fun b35 => cond (decide (0 ≤ b35.1) && decide (b35.1 = b35.1) && decide (b35.1 * (1 : Nat) ≤ 140737488355328)) (RET (IntKind.i64.wrap (1 + b1.1), IntKind.i64.wrap (1 + b2.1), b3.1, 0, 0, (b6.1 == 0), false, (b7.1 == 0), true, [], List.replicate b35.1.toNat (dflt (.int .u8)), b35.2.1, b35.2.2)) none)))) (RET (IntKind.i64.wrap (1 + b1.1), IntKind.i64.wrap (1 + b2.1), b3.1, 0, 0, (b6.1 == 0), false, (b7.1 == 0), false, [], b5.1, b31.2.1, b31.2.2))))
def F42 (k : Nat) (a0_0 : List (den (.int .u8))) (a0_1 a1 : Int) : Option (Int × Int × Int × Int × Int × Bool × Bool × Bool × Bool × List (den rng) × List (den (.int .u8)) × List (den (.int .u8)) × Int) := F42_T k a0_0 a0_1 a1 (fun x6_0 m0_0 m1_0 m5000_0 m5001_0 m5002_0 m5003_0 m5004_0 m5005_0 m5007_0 m5009_0 m5010_0 => F42_l0 k a0_0 a0_1 a1 k x6_0 m0_0 m1_0 m5000_0 m5001_0 m5002_0 m5003_0 m5004_0 m5005_0 m5007_0 m5009_0 m5010_0) some
theorem F42_st {β : Type} (k : Nat) (a0_0 : List (den (.int .u8))) (a0_1 a1 : Int) (K : A × List (List Leaf) → Option β) : evalF (F42_E k) Try.f42 (F42_a a0_0 a0_1 a1) K =
    F42_T k a0_0 a0_1 a1 (fun x6_0 m0_0 m1_0 m5000_0 m5001_0 m5002_0 m5003_0 m5004_0 m5005_0 m5007_0 m5009_0 m5010_0 => loopG (F42_E k) Try.f42 [1, 1, 0, 1, 0, 1, 1, 1, 1, 0] 0 (kontAt (F42_E k) [1, 1, 0, 1, 0, 1, 1, 1, 1, 0] (bodyOf Try.f42) 0 (endC (F42_E k) Try.f42 (F42_a a0_0 a0_1 a1) K)) k (F42_s0 a0_0 a0_1 a1 x6_0 m0_0 m1_0 m5000_0 m5001_0 m5002_0 m5003_0 m5004_0 m5005_0 m5007_0 m5009_0 m5010_0)) (fun r => K (F42_r r)) := by kernel_rfl
theorem F42_ev {β : Type} (k : Nat) (a0_0 : List (den (.int .u8))) (a0_1 a1 : Int) (K : A × List (List Leaf) → Option β) : evalF (F42_E k) Try.f42 (F42_a a0_0 a0_1 a1) K = (F42 k a0_0 a0_1 a1).bind fun r => K (F42_r r) := by
  rw [F42_st, F42]
  simp only [F42_T, bind_cond, Option.bind_assoc, Option.bind_some, Option.bind_none, Option.bind_fun_some, F42_l0_lp]
theorem F42_tOk (k : Nat) : TabFn Try.prog (F42_t k) := .ent (F43_q k) F43_f (.ent (F85_q k) F85_f (.ent (F44_q k) F44_f (.ent (F86_q k) F86_f (.none))))
theorem F42_con (k : Nat) (a0_0 : List (den (.int .u8))) (a0_1 a1 : Int) : Contract Try.prog 42 (F42_a a0_0 a0_1 a1) ⟨F42 k a0_0 a0_1 a1, F42_r⟩ := con_of (envOk (F42_tOk k) _ _ _ _) mixed Try.func42 rfl rfl (F42_ev k a0_0 a0_1 a1 some)
def F42_sh : List AK := [.p [.sl .ro (.int .u8), .int .i64], .one (.l (.int .i64))]
def F42_p (k : Nat) : List Arg → Option CR := cle F42_sh fun x => ⟨F42 k x.1.1 x.1.2.1 x.2.1, F42_r⟩
theorem F42_q (k : Nat) : ∀ xs cr, F42_p k xs = some cr → Contract Try.prog 42 xs cr := cle_ok fun x => F42_con k _ _ _
theorem F42_f : FnOk Try.prog 42 := .of (by kernel_rfl)
/-! 51: loop.example/netstack/spec.l1In -/
abbrev F51_E (k : Nat) : Env := env noTab noHint .own [] k
abbrev F51_a (a0 a1 a2 : Int) : List Arg := [.one (.l (.v (.int .i64 a0))), .one (.l (.v (.int .i64 a1))), .one (.l (.v (.int .i64 a2)))]
def F51_r (r : Bool) : A × List (List Leaf) := (.one (.v (.bool r)), [])
def F51 (k : Nat) (a0 a1 a2 : Int) : Option (Bool) := cond (decide (a0 ≥ a1)) (some (decide (a0 ≤ a2))) (some false)
theorem F51_st {β : Type} (k : Nat) (a0 a1 a2 : Int) (K : A × List (List Leaf) → Option β) : evalF (F51_E k) Try.f51 (F51_a a0 a1 a2) K =
    cond (decide (a0 ≥ a1)) (K (.one (.v (.bool (decide (a0 ≤ a2)))), [])) (K (.one (.v (.bool false)), [])) := by kernel_rfl
theorem F51_ev {β : Type} (k : Nat) (a0 a1 a2 : Int) (K : A × List (List Leaf) → Option β) : evalF (F51_E k) Try.f51 (F51_a a0 a1 a2) K = (F51 k a0 a1 a2).bind fun r => K (F51_r r) := by
  rw [F51_st, F51]
  simp only [F51_r, bind_cond, Option.bind_assoc, Option.bind_some, Option.bind_none, Option.bind_fun_some]
theorem F51_con (k : Nat) (a0 a1 a2 : Int) : Contract Try.prog 51 (F51_a a0 a1 a2) ⟨F51 k a0 a1 a2, F51_r⟩ := con_of (envOk .none _ _ _ _) mixed Try.func51 rfl rfl (F51_ev k a0 a1 a2 some)
def F51_sh : List AK := [.one (.l (.int .i64)), .one (.l (.int .i64)), .one (.l (.int .i64))]
def F51_p (k : Nat) : List Arg → Option CR := cle F51_sh fun x => ⟨F51 k x.1 x.2.1 x.2.2.1, F51_r⟩
theorem F51_q (k : Nat) : ∀ xs cr, F51_p k xs = some cr → Contract Try.prog 51 xs cr := cle_ok fun x => F51_con k _ _ _
theorem F51_f : FnOk Try.prog 51 := .of (by kernel_rfl)
/-! 50: loop.example/netstack/spec.SegmentOk -/
def F50_h : Nat → Hint
  | 0 => ⟨[(1, .plain), (3, .plain)], [(1000, .plain), (1001, .plain), (1002, .plain), (1003, .plain), (1004, .plain), (1005, .plain), (1006, .plain), (1007, .plain), (1008, .plain), (1009, .plain), (1010, .plain)]⟩
  | _ => ⟨[], []⟩
def F50_t (k : Nat) : Tab := entT 51 (F51_p k) <| noTab
abbrev F50_E (k : Nat) : Env := env (F50_t k) F50_h .own [] k
abbrev F50_a (a0_0 a0_1 a0_2 a0_3 a0_4 : Int) (a0_5 a0_6 a0_7 a0_8 : Bool) (a0_9 : List (den rng)) (a0_10 : List (den (.int .u8))) : List Arg := [.agg [.l (.v (.int .i64 a0_0)), .l (.v (.int .i64 a0_1)), .l (.v (.int .i64 a0_2)), .l (.v (.int .i64 a0_3)), .l (.v (.int .i64 a0_4)), .l (.v (.bool a0_5)), .l (.v (.bool a0_6)), .l (.v (.bool a0_7)), .l (.v (.bool a0_8)), .l (.s .ro rng a0_9), .l (.s .ro (.int .u8) a0_10)]]
def F50_r (r : Bool) : A × List (List Leaf) := (.one (.v (.bool r)), [])
def F50_s0 (a0_0 a0_1 a0_2 a0_3 a0_4 : Int) (a0_5 a0_6 a0_7 a0_8 : Bool) (a0_9 : List (den rng)) (a0_10 : List (den (.int .u8))) (x3_0 : Int) : St := ⟨(.one .d) :: (.one (.ptr (.cell 1000) 11 0)) :: (.one .d) :: (.one (.v (.int .i64 x3_0))) :: dz 103 [], [(1000, ⟨.v (.int .i64 a0_0), 0, 0⟩), (1001, ⟨.v (.int .i64 a0_1), 0, 0⟩), (1002, ⟨.v (.int .i64 a0_2), 0, 0⟩), (1003, ⟨.v (.int .i64 a0_3), 0, 0⟩), (1004, ⟨.v (.int .i64 a0_4), 0, 0⟩), (1005, ⟨.v (.bool a0_5), 0, 0⟩), (1006, ⟨.v (.bool a0_6), 0, 0⟩), (1007, ⟨.v (.bool a0_7), 0, 0⟩), (1008, ⟨.v (.bool a0_8), 0, 0⟩), (1009, ⟨.s .ro rng a0_9, 0, 0⟩), (1010, ⟨.s .ro (.int .u8) a0_10, 0, 0⟩)]⟩
def F50_l0_T {β : Type} (k : Nat) (a0_0 a0_1 a0_2 a0_3 a0_4 : Int) (a0_5 a0_6 a0_7 a0_8 : Bool) (a0_9 : List (den rng)) (a0_10 : List (den (.int .u8))) (NX : Int → Option β) (RET : Bool → Option β) (x3_0 : Int) : Option β := cond (decide (x3_0 < ((a0_9.length : Nat) : Int))) (cond (decide (0 ≤ x3_0)) (cond (decide (x3_0 < ((a0_9.length : Nat) : Int))) ((F51 k ((atI a0_9 x3_0).1) 0 65535).bind fun b6 => cond (!b6) (RET false) (cond (decide (0 ≤ x3_0)) (cond (decide (x3_0 < ((a0_9.length : Nat) : Int))) ((F51 k ((atI a0_9 x3_0).2) 0 65535).bind fun b7 => cond (!b7) (RET false) (NX (IntKind.i64.wrap (x3_0 + 1)))) none) none)) none) none) (cond (!a0_6) (cond (a0_3 != 0) (RET false) (cond (a0_4 != 0) (RET false) (cond (decide (((a0_9.length : Nat) : Int) > 0)) (RET false) (cond (!a0_8) (RET true) (cond (!a0_5) (cond (!a0_7) (RET (((a0_10.length : Nat) : Int) == 0)) (RET false)) (RET false)))))) (cond (!a0_8) (RET true) (cond (!a0_5) (cond (!a0_7) (RET (((a0_10.length : Nat) : Int) == 0)) (RET false)) (RET false))))
def F50_l0 (k : Nat) (a0_0 a0_1 a0_2 a0_3 a0_4 : Int) (a0_5 a0_6 a0_7 a0_8 : Bool) (a0_9 : List (den rng)) (a0_10 : List (den (.int .u8))) : Nat → Int → Option (Bool)
  | 0, _ => none
  | n + 1, x3_0 => F50_l0_T k a0_0 a0_1 a0_2 a0_3 a0_4 a0_5 a0_6 a0_7 a0_8 a0_9 a0_10 (fun x3_0 => F50_l0 k a0_0 a0_1 a0_2 a0_3 a0_4 a0_5 a0_6 a0_7 a0_8 a0_9 a0_10 n x3_0) some x3_0
theorem F50_l0_rd {β : Type} (k n : Nat) (a0_0 a0_1 a0_2 a0_3 a0_4 : Int) (a0_5 a0_6 a0_7 a0_8 : Bool) (a0_9 : List (den rng)) (a0_10 : List (den (.int .u8))) (x3_0 : Int) (K : A × List (List Leaf) → Option β) :
    loopG (F50_E k) Try.f50 [1, 1, 0, 1, 0] 0 (kontAt (F50_E k) [1, 1, 0, 1, 0] (bodyOf Try.f50) 0 (endC (F50_E k) Try.f50 (F50_a a0_0 a0_1 a0_2 a0_3 a0_4 a0_5 a0_6 a0_7 a0_8 a0_9 a0_10) K)) (n + 1) (F50_s0 a0_0 a0_1 a0_2 a0_3 a0_4 a0_5 a0_6 a0_7 a0_8 a0_9 a0_10 x3_0) =
    F50_l0_T k a0_0 a0_1 a0_2 a0_3 a0_4 a0_5 a0_6 a0_7 a0_8 a0_9 a0_10 (fun x3_0 => loopG (F50_E k) Try.f50 [1, 1, 0, 1, 0] 0 (kontAt (F50_E k) [1, 1, 0, 1, 0] (bodyOf Try.f50) 0 (endC (F50_E k) Try.f50 (F50_a a0_0 a0_1 a0_2 a0_3 a0_4 a0_5 a0_6 a0_7 a0_8 a0_9 a0_10) K)) n (F50_s0 a0_0 a0_1 a0_2 a0_3 a0_4 a0_5 a0_6 a0_7 a0_8 a0_9 a0_10 x3_0)) (fun r => K (F50_r r)) x3_0 := by kernel_rfl
theorem F50_l0_lp {β : Type} (k : Nat) (a0_0 a0_1 a0_2 a0_3 a0_4 : Int) (a0_5 a0_6 a0_7 a0_8 : Bool) (a0_9 : List (den rng)) (a0_10 : List (den (.int .u8))) (K : A × List (List Leaf) → Option β) (n : Nat) : ∀ (x3_0 : Int), loopG (F50_E k) Try.f50 [1, 1, 0, 1, 0] 0 (kontAt (F50_E k) [1, 1, 0, 1, 0] (bodyOf Try.f50) 0 (endC (F50_E k) Try.f50 (F50_a a0_0 a0_1 a0_2 a0_3 a0_4 a0_5 a0_6 a0_7 a0_8 a0_9 a0_10) K)) n (F50_s0 a0_0 a0_1 a0_2 a0_3 a0_4 a0_5 a0_6 a0_7 a0_8 a0_9 a0_10 x3_0) =
    (F50_l0 k a0_0 a0_1 a0_2 a0_3 a0_4 a0_5 a0_6 a0_7 a0_8 a0_9 a0_10 n x3_0).bind fun r => K (F50_r r) := by
  induction n with
  | zero => intros; rfl
  | succ n ih =>
    intros
    rw [F50_l0_rd, F50_l0]
    simp only [F50_l0_T, bind_cond, Option.bind_assoc, Option.bind_some, Option.bind_none, Option.bind_fun_some, ih]
def F50_T {β : Type} (k : Nat) (a0_0 a0_1 a0_2 a0_3 a0_4 : Int) (a0_5 a0_6 a0_7 a0_8 : Bool) (a0_9 : List (den rng)) (a0_10 : List (den (.int .u8))) (LP0 : Int → Option β) (RET : Bool → Option β) : Option β := (F51 k a0_0 1 255).bind fun b1 => cond (!b1) (RET false) ((F51 k a0_1 1 255).bind fun b2 => cond (!b2) (RET false) ((F51 k a0_2 0 65535).bind fun b3 => cond (!b3) (RET false) ((F51 k a0_3 0 65535).bind fun b4 => cond (!b4) (RET false) ((F51 k a0_4 0 255).bind fun b5 => cond (!b5) (RET false) (cond (decide (((a0_9.length : Nat) : Int) > 2)) (RET false) (cond (decide (((a0_10.length : Nat) : Int) > 12)) (RET false) (LP0 0)))))))
def F50 (k : Nat) (a0_0 a0_1 a0_2 a0_3 a0_4 : Int) (a0_5 a0_6 a0_7 a0_8 : Bool) (a0_9 : List (den rng)) (a0_10 : List (den (.int .u8))) : Option (Bool) := F50_T k a0_0 a0_1 a0_2 a0_3 a0_4 a0_5 a0_6 a0_7 a0_8 a0_9 a0_10 (fun x3_0 => F50_l0 k a0_0 a0_1 a0_2 a0_3 a0_4 a0_5 a0_6 a0_7 a0_8 a0_9 a0_10 k x3_0) some
theorem F50_st {β : Type} (k : Nat) (a0_0 a0_1 a0_2 a0_3 a0_4 : Int) (a0_5 a0_6 a0_7 a0_8 : Bool) (a0_9 : List (den rng)) (a0_10 : List (den (.int .u8))) (K : A × List (List Leaf) → Option β) : evalF (F50_E k) Try.f50 (F50_a a0_0 a0_1 a0_2 a0_3 a0_4 a0_5 a0_6 a0_7 a0_8 a0_9 a0_10) K =
    F50_T k a0_0 a0_1 a0_2 a0_3 a0_4 a0_5 a0_6 a0_7 a0_8 a0_9 a0_10 (fun x3_0 => loopG (F50_E k) Try.f50 [1, 1, 0, 1, 0] 0 (kontAt (F50_E k) [1, 1, 0, 1, 0] (bodyOf Try.f50) 0 (endC (F50_E k) Try.f50 (F50_a a0_0 a0_1 a0_2 a0_3 a0_4 a0_5 a0_6 a0_7 a0_8 a0_9 a0_10) K)) k (F50_s0 a0_0 a0_1 a0_2 a0_3 a0_4 a0_5 a0_6 a0_7 a0_8 a0_9 a0_10 x3_0)) (fun r => K (F50_r r)) := by kernel_rfl
theorem F50_ev {β : Type} (k : Nat) (a0_0 a0_1 a0_2 a0_3 a0_4 : Int) (a0_5 a0_6 a0_7 a0_8 : Bool) (a0_9 : List (den rng)) (a0_10 : List (den (.int .u8))) (K : A × List (List Leaf) → Option β) : evalF (F50_E k) Try.f50 (F50_a a0_0 a0_1 a0_2 a0_3 a0_4 a0_5 a0_6 a0_7 a0_8 a0_9 a0_10) K = (F50 k a0_0 a0_1 a0_2 a0_3 a0_4 a0_5 a0_6 a0_7 a0_8 a0_9 a0_10).bind fun r => K (F50_r r) := by
  rw [F50_st, F50]
  simp only [F50_T, bind_cond, Option.bind_assoc, Option.bind_some, Option.bind_none, Option.bind_fun_some, F50_l0_lp]
theorem F50_tOk (k : Nat) : TabFn Try.prog (F50_t k) := .ent (F51_q k) F51_f (.none)
theorem F50_con (k : Nat) (a0_0 a0_1 a0_2 a0_3 a0_4 : Int) (a0_5 a0_6 a0_7 a0_8 : Bool) (a0_9 : List (den rng)) (a0_10 : List (den (.int .u8))) : Contract Try.prog 50 (F50_a a0_0 a0_1 a0_2 a0_3 a0_4 a0_5 a0_6 a0_7 a0_8 a0_9 a0_10) ⟨F50 k a0_0 a0_1 a0_2 a0_3 a0_4 a0_5 a0_6 a0_7 a0_8 a0_9 a0_10, F50_r⟩ := con_of (envOk (F50_tOk k) _ _ _ _) mixed Try.func50 rfl rfl (F50_ev k a0_0 a0_1 a0_2 a0_3 a0_4 a0_5 a0_6 a0_7 a0_8 a0_9 a0_10 some)
def F50_sh : List AK := [.agg [.l (.int .i64), .l (.int .i64), .l (.int .i64), .l (.int .i64), .l (.int .i64), .l (.bool), .l (.bool), .l (.bool), .l (.bool), .l (.sl .ro rng), .l (.sl .ro (.int .u8))]]
def F50_p (k : Nat) : List Arg → Option CR := cle F50_sh fun x => ⟨F50 k x.1.1 x.1.2.1 x.1.2.2.1 x.1.2.2.2.1 x.1.2.2.2.2.1 x.1.2.2.2.2.2.1 x.1.2.2.2.2.2.2.1 x.1.2.2.2.2.2.2.2.1 x.1.2.2.2.2.2.2.2.2.1 x.1.2.2.2.2.2.2.2.2.2.1 x.1.2.2.2.2.2.2.2.2.2.2.1, F50_r⟩
theorem F50_q (k : Nat) : ∀ xs cr, F50_p k xs = some cr → Contract Try.prog 50 xs cr := cle_ok fun x => F50_con k _ _ _ _ _ _ _ _ _ _ _
theorem F50_f : FnOk Try.prog 50 := .of (by kernel_rfl)
/-! 52: loop.example/netstack/spec.l21Copy -/
abbrev F52_E (k : Nat) : Env := env noTab noHint .own [] k
abbrev F52_a (a0_0 a0_1 a0_2 a0_3 a0_4 : Int) (a0_5 a0_6 a0_7 a0_8 : Bool) (a0_9 : List (den rng)) (a0_10 : List (den (.int .u8))) : List Arg := [.agg [.l (.v (.int .i64 a0_0)), .l (.v (.int .i64 a0_1)), .l (.v (.int .i64 a0_2)), .l (.v (.int .i64 a0_3)), .l (.v (.int .i64 a0_4)), .l (.v (.bool a0_5)), .l (.v (.bool a0_6)), .l (.v (.bool a0_7)), .l (.v (.bool a0_8)), .l (.s .ro rng a0_9), .l (.s .ro (.int .u8) a0_10)]]
def F52_r (r : Int × Int × Int × Int × Int × Bool × Bool × Bool × Bool × List (den rng) × List (den (.int .u8))) : A × List (List Leaf) := (.agg [.v (.int .i64 r.1), .v (.int .i64 r.2.1), .v (.int .i64 r.2.2.1), .v (.int .i64 r.2.2.2.1), .v (.int .i64 r.2.2.2.2.1), .v (.bool r.2.2.2.2.2.1), .v (.bool r.2.2.2.2.2.2.1), .v (.bool r.2.2.2.2.2.2.2.1), .v (.bool r.2.2.2.2.2.2.2.2.1), .s .own rng r.2.2.2.2.2.2.2.2.2.1, .s .own (.int .u8) r.2.2.2.2.2.2.2.2.2.2], [])
def F52_T {β : Type} (k : Nat) (a0_0 a0_1 a0_2 a0_3 a0_4 : Int) (a0_5 a0_6 a0_7 a0_8 : Bool) (a0_9 : List (den rng)) (a0_10 : List (den (.int .u8))) (RET : (Int × Int × Int × Int × Int × Bool × Bool × Bool × Bool × List (den rng) × List (den (.int .u8))) → Option β) : Option β := cond (decide ((([] : List (den rng)).length + a0_9.length) * 16 ≤ 140737488355328)) (cond (decide ((([] : List (den (.int .u8))).length + a0_10.length) * 1 ≤ 140737488355328)) (RET (a0_0, a0_1, a0_2, a0_3, a0_4, a0_5, a0_6, a0_7, a0_8, [] ++ a0_9, [] ++ a0_10)) none) none
def F52 (k : Nat) (a0_0 a0_1 a0_2 a0_3 a0_4 : Int) (a0_5 a0_6 a0_7 a0_8 : Bool) (a0_9 : List (den rng)) (a0_10 : List (den (.int .u8))) : Option (Int × Int × Int × Int × Int × Bool × Bool × Bool × Bool × List (den rng) × List (den (.int .u8))) := F52_T k a0_0 a0_1 a0_2 a0_3 a0_4 a0_5 a0_6 a0_7 a0_8 a0_9 a0_10 some
theorem F52_st {β : Type} (k : Nat) (a0_0 a0_1 a0_2 a0_3 a0_4 : Int) (a0_5 a0_6 a0_7 a0_8 : Bool) (a0_9 : List (den rng)) (a0_10 : List (den (.int .u8))) (K : A × List (List Leaf) → Option β) : evalF (F52_E k) Try.f52 (F52_a a0_0 a0_1 a0_2 a0_3 a0_4 a0_5 a0_6 a0_7 a0_8 a0_9 a0_10) K =
    F52_T k a0_0 a0_1 a0_2 a0_3 a0_4 a0_5 a0_6 a0_7 a0_8 a0_9 a0_10 (fun r => K (F52_r r)) := by kernel_rfl
theorem F52_ev {β : Type} (k : Nat) (a0_0 a0_1 a0_2 a0_3 a0_4 : Int) (a0_5 a0_6 a0_7 a0_8 : Bool) (a0_9 : List (den rng)) (a0_10 : List (den (.int .u8))) (K : A × List (List Leaf) → Option β) : evalF (F52_E k) Try.f52 (F52_a a0_0 a0_1 a0_2 a0_3 a0_4 a0_5 a0_6 a0_7 a0_8 a0_9 a0_10) K = (F52 k a0_0 a0_1 a0_2 a0_3 a0_4 a0_5 a0_6 a0_7 a0_8 a0_9 a0_10).bind fun r => K (F52_r r) := by
  rw [F52_st, F52]
  simp only [F52_T, bind_cond, Option.bind_assoc, Option.bind_some, Option.bind_none, Option.bind_fun_some]
theorem F52_con (k : Nat) (a0_0 a0_1 a0_2 a0_3 a0_4 : Int) (a0_5 a0_6 a0_7 a0_8 : Bool) (a0_9 : List (den rng)) (a0_10 : List (den (.int .u8))) : Contract Try.prog 52 (F52_a a0_0 a0_1 a0_2 a0_3 a0_4 a0_5 a0_6 a0_7 a0_8 a0_9 a0_10) ⟨F52 k a0_0 a0_1 a0_2 a0_3 a0_4 a0_5 a0_6 a0_7 a0_8 a0_9 a0_10, F52_r⟩ := con_of (envOk .none _ _ _ _) mixed Try.func52 rfl rfl (F52_ev k a0_0 a0_1 a0_2 a0_3 a0_4 a0_5 a0_6 a0_7 a0_8 a0_9 a0_10 some)
def F52_sh : List AK := [.agg [.l (.int .i64), .l (.int .i64), .l (.int .i64), .l (.int .i64), .l (.int .i64), .l (.bool), .l (.bool), .l (.bool), .l (.bool), .l (.sl .ro rng), .l (.sl .ro (.int .u8))]]
def F52_p (k : Nat) : List Arg → Option CR := cle F52_sh fun x => ⟨F52 k x.1.1 x.1.2.1 x.1.2.2.1 x.1.2.2.2.1 x.1.2.2.2.2.1 x.1.2.2.2.2.2.1 x.1.2.2.2.2.2.2.1 x.1.2.2.2.2.2.2.2.1 x.1.2.2.2.2.2.2.2.2.1 x.1.2.2.2.2.2.2.2.2.2.1 x.1.2.2.2.2.2.2.2.2.2.2.1, F52_r⟩
theorem F52_q (k : Nat) : ∀ xs cr, F52_p k xs = some cr → Contract Try.prog 52 xs cr := cle_ok fun x => F52_con k _ _ _ _ _ _ _ _ _ _ _
theorem F52_f : FnOk Try.prog 52 := .of (by kernel_rfl)
/-! 53: loop.example/netstack/spec.SeqOf -/
abbrev F53_E (k : Nat) : Env := env noTab noHint .own [] k
abbrev F53_a (a0 : Int) : List Arg := [.one (.l (.v (.int .i64 a0)))]
def F53_r (r : Int) : A × List (List Leaf) := (.one (.v (.int .i64 r)), [])
def F53 (k : Nat) (a0 : Int) : Option (Int) := cond (decide ((a0.tmod 65536) < 0)) (some (IntKind.i64.wrap ((a0.tmod 65536) + 65536))) (some (a0.tmod 65536))
theorem F53_st {β : Type} (k : Nat) (a0 : Int) (K : A × List (List Leaf) → Option β) : evalF (F53_E k) Try.f53 (F53_a a0) K =
    cond (decide ((a0.tmod 65536) < 0)) (K (.one (.v (.int .i64 (IntKind.i64.wrap ((a0.tmod 65536) + 65536)))), [])) (K (.one (.v (.int .i64 (a0.tmod 65536))), [])) := by kernel_rfl
theorem F53_ev {β : Type} (k : Nat) (a0 : Int) (K : A × List (List Leaf) → Option β) : evalF (F53_E k) Try.f53 (F53_a a0) K = (F53 k a0).bind fun r => K (F53_r r) := by
  rw [F53_st, F53]
  simp only [F53_r, bind_cond, Option.bind_assoc, Option.bind_some, Option.bind_none, Option.bind_fun_some]
theorem F53_con (k : Nat) (a0 : Int) : Contract Try.prog 53 (F53_a a0) ⟨F53 k a0, F53_r⟩ := con_of (envOk .none _ _ _ _) mixed Try.func53 rfl rfl (F53_ev k a0 some)
def F53_sh : List AK := [.one (.l (.int .i64))]
def F53_p (k : Nat) : List Arg → Option CR := cle F53_sh fun x => ⟨F53 k x.1, F53_r⟩
theorem F53_q (k : Nat) : ∀ xs cr, F53_p k xs = some cr → Contract Try.prog 53 xs cr := cle_ok fun x => F53_con k _
theorem F53_f : FnOk Try.prog 53 := .of (by kernel_rfl)
/-! 13: loop.example/netstack/spec.SegmentCut -/
def F13_h : Nat → Hint
  | 0 => ⟨[(1, .plain), (2, .plain), (5, .own .own seg []), (6, .plain)], [(2000, .plain), (2001, .plain), (2002, .plain), (2003, .plain), (2004, .plain), (2005, .plain), (2006, .plain), (2007, .plain), (2008, .plain), (2009, .plain), (2010, .plain)]⟩
  | _ => ⟨[], []⟩
def F13_t (k : Nat) : Tab := entT 50 (F50_p k) <| entT 51 (F51_p k) <| entT 52 (F52_p k) <| entT 53 (F53_p k) <| noTab
abbrev F13_E (k : Nat) : Env := env (F13_t k) F13_h .own [] k
abbrev F13_a (a0_0 a0_1 a0_2 a0_3 a0_4 : Int) (a0_5 a0_6 a0_7 a0_8 : Bool) (a0_9 : List (den rng)) (a0_10 : List (den (.int .u8))) (a1 : Int) : List Arg := [.agg [.l (.v (.int .i64 a0_0)), .l (.v (.int .i64 a0_1)), .l (.v (.int .i64 a0_2)), .l (.v (.int .i64 a0_3)), .l (.v (.int .i64 a0_4)), .l (.v (.bool a0_5)), .l (.v (.bool a0_6)), .l (.v (.bool a0_7)), .l (.v (.bool a0_8)), .l (.s .ro rng a0_9), .l (.s .ro (.int .u8) a0_10)], .one (.l (.v (.int .i64 a1)))]
def F13_r (r : List (den seg)) : A × List (List Leaf) := (.one (.s .own seg r), [])
def F13_s0 (a0_0 a0_1 a0_2 a0_3 a0_4 : Int) (a0_5 a0_6 a0_7 a0_8 : Bool) (a0_9 : List (den rng)) (a0_10 : List (den (.int .u8))) (a1 : Int) (x6_0 : Int) (m5900_0 : List (den seg)) : St := ⟨(.one .d) :: (.one (.v (.int .i64 a1))) :: (.one (.ptr (.cell 2000) 11 0)) :: (.one .d) :: (.one .d) :: (.one (.a (.cell 5900) 0 0 none)) :: (.one (.v (.int .i64 x6_0))) :: dz 74 [], [(2000, ⟨.v (.int .i64 a0_0), 0, 0⟩), (2001, ⟨.v (.int .i64 a0_1), 0, 0⟩), (2002, ⟨.v (.int .i64 a0_2), 0, 0⟩), (2003, ⟨.v (.int .i64 a0_3), 0, 0⟩), (2004, ⟨.v (.int .i64 a0_4), 0, 0⟩), (2005, ⟨.v (.bool a0_5), 0, 0⟩), (2006, ⟨.v (.bool a0_6), 0, 0⟩), (2007, ⟨.v (.bool a0_7), 0, 0⟩), (2008, ⟨.v (.bool a0_8), 0, 0⟩), (2009, ⟨.s .ro rng a0_9, 0, 0⟩), (2010, ⟨.s .ro (.int .u8) a0_10, 0, 0⟩), (5900, ⟨.s .own seg m5900_0, 0, 0⟩)]⟩
def F13_l0_j2 {β : Type} (k : Nat) (a0_0 a0_1 a0_2 a0_3 a0_4 : Int) (a0_5 a0_6 a0_7 a0_8 : Bool) (a0_9 : List (den rng)) (a0_10 : List (den (.int .u8))) (a1 : Int) (NX : Int → List (den seg) → Option β) (RET : List (den seg) → Option β) (m5900_0 : List (den seg)) (b3 : Int × Int × Int × Int × Int × Bool × Bool × Bool × Bool × List (den rng) × List (den (.int .u8))) (b5 x6_0 : Int) : Option β := cond a0_7 (cond (decide ((m5900_0.length + [(b3.1, b3.2.1, b5, b3.2.2.2.1, b3.2.2.2.2.1, false, b3.2.2.2.2.2.2.1, ((if ((a0_10.length : Nat) : Int) < (IntKind.i64.wrap (x6_0 + a1)) then ((a0_10.length : Nat) : Int) else IntKind.i64.wrap (x6_0 + a1)) == ((a0_10.length : Nat) : Int)), b3.2.2.2.2.2.2.2.2.1, b3.2.2.2.2.2.2.2.2.2.1, [] ++ ((a0_10.take ((if ((a0_10.length : Nat) : Int) < (IntKind.i64.wrap (x6_0 + a1)) then ((a0_10.length : Nat) : Int) else IntKind.i64.wrap (x6_0 + a1)).toNat)).drop x6_0.toNat))].length) * 96 ≤ 140737488355328)) (NX (IntKind.i64.wrap (x6_0 + a1)) (m5900_0 ++ [(b3.1, b3.2.1, b5, b3.2.2.2.1, b3.2.2.2.2.1, false, b3.2.2.2.2.2.2.1, ((if ((a0_10.length : Nat) : Int) < (IntKind.i64.wrap (x6_0 + a1)) then ((a0_10.length : Nat) : Int) else IntKind.i64.wrap (x6_0 + a1)) == ((a0_10.length : Nat) : Int)), b3.2.2.2.2.2.2.2.2.1, b3.2.2.2.2.2.2.2.2.2.1, [] ++ ((a0_10.take ((if ((a0_10.length : Nat) : Int) < (IntKind.i64.wrap (x6_0 + a1)) then ((a0_10.length : Nat) : Int) else IntKind.i64.wrap (x6_0 + a1)).toNat)).drop x6_0.toNat))])) none) (cond (decide ((m5900_0.length + [(b3.1, b3.2.1, b5, b3.2.2.2.1, b3.2.2.2.2.1, false, b3.2.2.2.2.2.2.1, false, b3.2.2.2.2.2.2.2.2.1, b3.2.2.2.2.2.2.2.2.2.1, [] ++ ((a0_10.take ((if ((a0_10.length : Nat) : Int) < (IntKind.i64.wrap (x6_0 + a1)) then ((a0_10.length : Nat) : Int) else IntKind.i64.wrap (x6_0 + a1)).toNat)).drop x6_0.toNat))].length) * 96 ≤ 140737488355328)) (NX (IntKind.i64.wrap (x6_0 + a1)) (m5900_0 ++ [(b3.1, b3.2.1, b5, b3.2.2.2.1, b3.2.2.2.2.1, false, b3.2.2.2.2.2.2.1, false, b3.2.2.2.2.2.2.2.2.1, b3.2.2.2.2.2.2.2.2.2.1, [] ++ ((a0_10.take ((if ((a0_10.length : Nat) : Int) < (IntKind.i64.wrap (x6_0 + a1)) then ((a0_10.length : Nat) : Int) else IntKind.i64.wrap (x6_0 + a1)).toNat)).drop x6_0.toNat))])) none)
def F13_l0_j1 {β : Type} (k : Nat) (a0_0 a0_1 a0_2 a0_3 a0_4 : Int) (a0_5 a0_6 a0_7 a0_8 : Bool) (a0_9 : List (den rng)) (a0_10 : List (den (.int .u8))) (a1 : Int) (NX : Int → List (den seg) → Option β) (RET : List (den seg) → Option β) (x6_0 : Int) (m5900_0 : List (den seg)) : Option β := (F52 k a0_0 a0_1 a0_2 a0_3 a0_4 a0_5 a0_6 a0_7 a0_8 a0_9 a0_10).bind fun b3 => cond (decide (0 ≤ (if ((a0_10.length : Nat) : Int) < (IntKind.i64.wrap (x6_0 + a1)) then ((a0_10.length : Nat) : Int) else IntKind.i64.wrap (x6_0 + a1))) && decide ((if ((a0_10.length : Nat) : Int) < (IntKind.i64.wrap (x6_0 + a1)) then ((a0_10.length : Nat) : Int) else IntKind.i64.wrap (x6_0 + a1)) ≤ ((a0_10.length : Nat) : Int))) (cond (decide (0 ≤ x6_0) && decide (x6_0 ≤ (if ((a0_10.length : Nat) : Int) < (IntKind.i64.wrap (x6_0 + a1)) then ((a0_10.length : Nat) : Int) else IntKind.i64.wrap (x6_0 + a1)))) (cond (decide ((([] : List (den (.int .u8))).length + ((a0_10.take ((if ((a0_10.length : Nat) : Int) < (IntKind.i64.wrap (x6_0 + a1)) then ((a0_10.length : Nat) : Int) else IntKind.i64.wrap (x6_0 + a1)).toNat)).drop x6_0.toNat).length) * 1 ≤ 140737488355328)) (cond (decide (x6_0 > 0)) ((F53 k (IntKind.i64.wrap (a0_2 + x6_0))).bind fun b4 => cond a0_5 ((F53 k (IntKind.i64.wrap ((IntKind.i64.wrap (a0_2 + x6_0)) + 1))).bind fun b5 => F13_l0_j2 k a0_0 a0_1 a0_2 a0_3 a0_4 a0_5 a0_6 a0_7 a0_8 a0_9 a0_10 a1 NX RET m5900_0 b3 b5 x6_0) (F13_l0_j2 k a0_0 a0_1 a0_2 a0_3 a0_4 a0_5 a0_6 a0_7 a0_8 a0_9 a0_10 a1 NX RET m5900_0 b3 b4 x6_0)) (cond a0_7 (cond (decide ((m5900_0.length + [(b3.1, b3.2.1, b3.2.2.1, b3.2.2.2.1, b3.2.2.2.2.1, b3.2.2.2.2.2.1, b3.2.2.2.2.2.2.1, ((if ((a0_10.length : Nat) : Int) < (IntKind.i64.wrap (x6_0 + a1)) then ((a0_10.length : Nat) : Int) else IntKind.i64.wrap (x6_0 + a1)) == ((a0_10.length : Nat) : Int)), b3.2.2.2.2.2.2.2.2.1, b3.2.2.2.2.2.2.2.2.2.1, [] ++ ((a0_10.take ((if ((a0_10.length : Nat) : Int) < (IntKind.i64.wrap (x6_0 + a1)) then ((a0_10.length : Nat) : Int) else IntKind.i64.wrap (x6_0 + a1)).toNat)).drop x6_0.toNat))].length) * 96 ≤ 140737488355328)) (NX (IntKind.i64.wrap (x6_0 + a1)) (m5900_0 ++ [(b3.1, b3.2.1, b3.2.2.1, b3.2.2.2.1, b3.2.2.2.2.1, b3.2.2.2.2.2.1, b3.2.2.2.2.2.2.1, ((if ((a0_10.length : Nat) : Int) < (IntKind.i64.wrap (x6_0 + a1)) then ((a0_10.length : Nat) : Int) else IntKind.i64.wrap (x6_0 + a1)) == ((a0_10.length : Nat) : Int)), b3.2.2.2.2.2.2.2.2.1, b3.2.2.2.2.2.2.2.2.2.1, [] ++ ((a0_10.take ((if ((a0_10.length : Nat) : Int) < (IntKind.i64.wrap (x6_0 + a1)) then ((a0_10.length : Nat) : Int) else IntKind.i64.wrap (x6_0 + a1)).toNat)).drop x6_0.toNat))])) none) (cond (decide ((m5900_0.length + [(b3.1, b3.2.1, b3.2.2.1, b3.2.2.2.1, b3.2.2.2.2.1, b3.2.2.2.2.2.1, b3.2.2.2.2.2.2.1, false, b3.2.2.2.2.2.2.2.2.1, b3.2.2.2.2.2.2.2.2.2.1, [] ++ ((a0_10.take ((if ((a0_10.length : Nat) : Int) < (IntKind.i64.wrap (x6_0 + a1)) then ((a0_10.length : Nat) : Int) else IntKind.i64.wrap (x6_0 + a1)).toNat)).drop x6_0.toNat))].length) * 96 ≤ 140737488355328)) (NX (IntKind.i64.wrap (x6_0 + a1)) (m5900_0 ++ [(b3.1, b3.2.1, b3.2.2.1, b3.2.2.2.1, b3.2.2.2.2.1, b3.2.2.2.2.2.1, b3.2.2.2.2.2.2.1, false, b3.2.2.2.2.2.2.2.2.1, b3.2.2.2.2.2.2.2.2.2.1, [] ++ ((a0_10.take ((if ((a0_10.length : Nat) : Int) < (IntKind.i64.wrap (x6_0 + a1)) then ((a0_10.length : Nat) : Int) else IntKind.i64.wrap (x6_0 + a1)).toNat)).drop x6_0.toNat))])) none))) none) none) none
def F13_l0_T {β : Type} (k : Nat) (a0_0 a0_1 a0_2 a0_3 a0_4 : Int) (a0_5 a0_6 a0_7 a0_8 : Bool) (a0_9 : List (den rng)) (a0_10 : List (den (.int .u8))) (a1 : Int) (NX : Int → List (den seg) → Option β) (RET : List (den seg) → Option β) (x6_0 : Int) (m5900_0 : List (den seg)) : Option β := cond (x6_0 == 0) (F13_l0_j1 k a0_0 a0_1 a0_2 a0_3 a0_4 a0_5 a0_6 a0_7 a0_8 a0_9 a0_10 a1 NX RET x6_0 m5900_0) (cond (decide (x6_0 < ((a0_10.length : Nat) : Int))) (F13_l0_j1 k a0_0 a0_1 a0_2 a0_3 a0_4 a0_5 a0_6 a0_7 a0_8 a0_9 a0_10 a1 NX RET x6_0 m5900_0) (RET m5900_0))
def F13_l0 (k : Nat) (a0_0 a0_1 a0_2 a0_3 a0_4 : Int) (a0_5 a0_6 a0_7 a0_8 : Bool) (a0_9 : List (den rng)) (a0_10 : List (den (.int .u8))) (a1 : Int) : Nat → Int → List (den seg) → Option (List (den seg))
  | 0, _, _ => none
  | n + 1, x6_0, m5900_0 => F13_l0_T k a0_0 a0_1 a0_2 a0_3 a0_4 a0_5 a0_6 a0_7 a0_8 a0_9 a0_10 a1 (fun x6_0 m5900_0 => F13_l0 k a0_0 a0_1 a0_2 a0_3 a0_4 a0_5 a0_6 a0_7 a0_8 a0_9 a0_10 a1 n x6_0 m5900_0) some x6_0 m5900_0
theorem F13_l0_rd {β : Type} (k n : Nat) (a0_0 a0_1 a0_2 a0_3 a0_4 : Int) (a0_5 a0_6 a0_7 a0_8 : Bool) (a0_9 : List (den rng)) (a0_10 : List (den (.int .u8))) (a1 : Int) (x6_0 : Int) (m5900_0 : List (den seg)) (K : A × List (List Leaf) → Option β) :
    loopG (F13_E k) Try.f13 [1, 1, 1, 0, 1, 0] 0 (kontAt (F13_E k) [1, 1, 1, 0, 1, 0] (bodyOf Try.f13) 0 (endC (F13_E k) Try.f13 (F13_a a0_0 a0_1 a0_2 a0_3 a0_4 a0_5 a0_6 a0_7 a0_8 a0_9 a0_10 a1) K)) (n + 1) (F13_s0 a0_0 a0_1 a0_2 a0_3 a0_4 a0_5 a0_6 a0_7 a0_8 a0_9 a0_10 a1 x6_0 m5900_0) =
    F13_l0_T k a0_0 a0_1 a0_2 a0_3 a0_4 a0_5 a0_6 a0_7 a0_8 a0_9 a0_10 a1 (fun x6_0 m5900_0 => loopG (F13_E k) Try.f13 [1, 1, 1, 0, 1, 0] 0 (kontAt (F13_E k) [1, 1, 1, 0, 1, 0] (bodyOf Try.f13) 0 (endC (F13_E k) Try.f13 (F13_a a0_0 a0_1 a0_2 a0_3 a0_4 a0_5 a0_6 a0_7 a0_8 a0_9 a0_10 a1) K)) n (F13_s0 a0_0 a0_1 a0_2 a0_3 a0_4 a0_5 a0_6 a0_7 a0_8 a0_9 a0_10 a1 x6_0 m5900_0)) (fun r => K (F13_r r)) x6_0 m5900_0 := by kernel_rfl
theorem F13_l0_lp {β : Type} (k : Nat) (a0_0 a0_1 a0_2 a0_3 a0_4 : Int) (a0_5 a0_6 a0_7 a0_8 : Bool) (a0_9 : List (den rng)) (a0_10 : List (den (.int .u8))) (a1 : Int) (K : A × List (List Leaf) → Option β) (n : Nat) : ∀ (x6_0 : Int) (m5900_0 : List (den seg)), loopG (F13_E k) Try.f13 [1, 1, 1, 0, 1, 0] 0 (kontAt (F13_E k) [1, 1, 1, 0, 1, 0] (bodyOf Try.f13) 0 (endC (F13_E k) Try.f13 (F13_a a0_0 a0_1 a0_2 a0_3 a0_4 a0_5 a0_6 a0_7 a0_8 a0_9 a0_10 a1) K)) n (F13_s0 a0_0 a0_1 a0_2 a0_3 a0_4 a0_5 a0_6 a0_7 a0_8 a0_9 a0_10 a1 x6_0 m5900_0) =
    (F13_l0 k a0_0 a0_1 a0_2 a0_3 a0_4 a0_5 a0_6 a0_7 a0_8 a0_9 a0_10 a1 n x6_0 m5900_0).bind fun r => K (F13_r r) := by
  induction n with
  | zero => intros; rfl
  | succ n ih =>
    intros
    rw [F13_l0_rd, F13_l0]
    simp only [F13_l0_T, F13_l0_j2, F13_l0_j1, bind_cond, Option.bind_assoc, Option.bind_some, Option.bind_none, Option.bind_fun_some, ih]
def F13_T {β : Type} (k : Nat) (a0_0 a0_1 a0_2 a0_3 a0_4 : Int) (a0_5 a0_6 a0_7 a0_8 : Bool) (a0_9 : List (den rng)) (a0_10 : List (den (.int .u8))) (a1 : Int) (LP0 : Int → List (den seg) → Option β) (RET : List (den seg) → Option β) : Option β := (F50 k a0_0 a0_1 a0_2 a0_3 a0_4 a0_5 a0_6 a0_7 a0_8 a0_9 a0_10).bind fun b1 => cond (!b1) (RET []) ((F51 k a1 1 12).bind fun b2 => cond (!b2) (RET []) (LP0 0 []))
def F13 (k : Nat) (a0_0 a0_1 a0_2 a0_3 a0_4 : Int) (a0_5 a0_6 a0_7 a0_8 : Bool) (a0_9 : List (den rng)) (a0_10 : List (den (.int .u8))) (a1 : Int) : Option (List (den seg)) := F13_T k a0_0 a0_1 a0_2 a0_3 a0_4 a0_5 a0_6 a0_7 a0_8 a0_9 a0_10 a1 (fun x6_0 m5900_0 => F13_l0 k a0_0 a0_1 a0_2 a0_3 a0_4 a0_5 a0_6 a0_7 a0_8 a0_9 a0_10 a1 k x6_0 m5900_0) some
theorem F13_st {β : Type} (k : Nat) (a0_0 a0_1 a0_2 a0_3 a0_4 : Int) (a0_5 a0_6 a0_7 a0_8 : Bool) (a0_9 : List (den rng)) (a0_10 : List (den (.int .u8))) (a1 : Int) (K : A × List (List Leaf) → Option β) : evalF (F13_E k) Try.f13 (F13_a a0_0 a0_1 a0_2 a0_3 a0_4 a0_5 a0_6 a0_7 a0_8 a0_9 a0_10 a1) K =
    F13_T k a0_0 a0_1 a0_2 a0_3 a0_4 a0_5 a0_6 a0_7 a0_8 a0_9 a0_10 a1 (fun x6_0 m5900_0 => loopG (F13_E k) Try.f13 [1, 1, 1, 0, 1, 0] 0 (kontAt (F13_E k) [1, 1, 1, 0, 1, 0] (bodyOf Try.f13) 0 (endC (F13_E k) Try.f13 (F13_a a0_0 a0_1 a0_2 a0_3 a0_4 a0_5 a0_6 a0_7 a0_8 a0_9 a0_10 a1) K)) k (F13_s0 a0_0 a0_1 a0_2 a0_3 a0_4 a0_5 a0_6 a0_7 a0_8 a0_9 a0_10 a1 x6_0 m5900_0)) (fun r => K (F13_r r)) := by kernel_rfl
theorem F13_ev {β : Type} (k : Nat) (a0_0 a0_1 a0_2 a0_3 a0_4 : Int) (a0_5 a0_6 a0_7 a0_8 : Bool) (a0_9 : List (den rng)) (a0_10 : List (den (.int .u8))) (a1 : Int) (K : A × List (List Leaf) → Option β) : evalF (F13_E k) Try.f13 (F13_a a0_0 a0_1 a0_2 a0_3 a0_4 a0_5 a0_6 a0_7 a0_8 a0_9 a0_10 a1) K = (F13 k a0_0 a0_1 a0_2 a0_3 a0_4 a0_5 a0_6 a0_7 a0_8 a0_9 a0_10 a1).bind fun r => K (F13_r r) := by
  rw [F13_st, F13]
  simp only [F13_T, bind_cond, Option.bind_assoc, Option.bind_some, Option.bind_none, Option.bind_fun_some, F13_l0_lp]
theorem F13_tOk (k : Nat) : TabFn Try.prog (F13_t k) := .ent (F50_q k) F50_f (.ent (F51_q k) F51_f (.ent (F52_q k) F52_f (.ent (F53_q k) F53_f (.none))))
theorem F13_con (k : Nat) (a0_0 a0_1 a0_2 a0_3 a0_4 : Int) (a0_5 a0_6 a0_7 a0_8 : Bool) (a0_9 : List (den rng)) (a0_10 : List (den (.int .u8))) (a1 : Int) : Contract Try.prog 13 (F13_a a0_0 a0_1 a0_2 a0_3 a0_4 a0_5 a0_6 a0_7 a0_8 a0_9 a0_10 a1) ⟨F13 k a0_0 a0_1 a0_2 a0_3 a0_4 a0_5 a0_6 a0_7 a0_8 a0_9 a0_10 a1, F13_r⟩ := con_of (envOk (F13_tOk k) _ _ _ _) mixed Try.func13 rfl rfl (F13_ev k a0_0 a0_1 a0_2 a0_3 a0_4 a0_5 a0_6 a0_7 a0_8 a0_9 a0_10 a1 some)
def F13_sh : List AK := [.agg [.l (.int .i64), .l (.int .i64), .l (.int .i64), .l (.int .i64), .l (.int .i64), .l (.bool), .l (.bool), .l (.bool), .l (.bool), .l (.sl .ro rng), .l (.sl .ro (.int .u8))], .one (.l (.int .i64))]
def F13_p (k : Nat) : List Arg → Option CR := cle F13_sh fun x => ⟨F13 k x.1.1 x.1.2.1 x.1.2.2.1 x.1.2.2.2.1 x.1.2.2.2.2.1 x.1.2.2.2.2.2.1 x.1.2.2.2.2.2.2.1 x.1.2.2.2.2.2.2.2.1 x.1.2.2.2.2.2.2.2.2.1 x.1.2.2.2.2.2.2.2.2.2.1 x.1.2.2.2.2.2.2.2.2.2.2.1 x.2.1, F13_r⟩
theorem F13_q (k : Nat) : ∀ xs cr, F13_p k xs = some cr → Contract Try.prog 13 xs cr := cle_ok fun x => F13_con k _ _ _ _ _ _ _ _ _ _ _ _
theorem F13_f : FnOk Try.prog 13 := .of (by kernel_rfl)
/-! 19: loop.example/netstack/spec.DrawSegmentJoin -/
def F19_t (k : Nat) : Tab := entT 41 (F41_p k) <| entT 42 (F42_p k) <| entT 43 (F43_p k) <| entT 44 (F44_p k) <| entT 13 (F13_p k) <| entT 53 (F53_p k) <| noTab
abbrev F19_E (k : Nat) : Env := env (F19_t k) noHint .ro [] k
abbrev F19_a (a0 : List (den (.int .u8))) : List Arg := [.one (.l (.s .ro (.int .u8) a0))]
def F19_r (r : Int × Int × Int × Int × Int × Bool × Bool × Bool × Bool × List (den rng) × List (den (.int .u8)) × Int × Int × Int × Int × Int × Bool × Bool × Bool × Bool × List (den rng) × List (den (.int .u8))) : A × List (List Leaf) := (.tup [(true, [.v (.int .i64 r.1), .v (.int .i64 r.2.1), .v (.int .i64 r.2.2.1), .v (.int .i64 r.2.2.2.1), .v (.int .i64 r.2.2.2.2.1), .v (.bool r.2.2.2.2.2.1), .v (.bool r.2.2.2.2.2.2.1), .v (.bool r.2.2.2.2.2.2.2.1), .v (.bool r.2.2.2.2.2.2.2.2.1), .s .ro rng r.2.2.2.2.2.2.2.2.2.1, .s .ro (.int .u8) r.2.2.2.2.2.2.2.2.2.2.1]), (true, [.v (.int .i64 r.2.2.2.2.2.2.2.2.2.2.2.1), .v (.int .i64 r.2.2.2.2.2.2.2.2.2.2.2.2.1), .v (.int .i64 r.2.2.2.2.2.2.2.2.2.2.2.2.2.1), .v (.int .i64 r.2.2.2.2.2.2.2.2.2.2.2.2.2.2.1), .v (.int .i64 r.2.2.2.2.2.2.2.2.2.2.2.2.2.2.2.1), .v (.bool r.2.2.2.2.2.2.2.2.2.2.2.2.2.2.2.2.1), .v (.bool r.2.2.2.2.2.2.2.2.2.2.2.2.2.2.2.2.2.1), .v (.bool r.2.2.2.2.2.2.2.2.2.2.2.2.2.2.2.2.2.2.1), .v (.bool r.2.2.2.2.2.2.2.2.2.2.2.2.2.2.2.2.2.2.2.1), .s .ro rng r.2.2.2.2.2.2.2.2.2.2.2.2.2.2.2.2.2.2.2.2.1, .s .ro (.int .u8) r.2.2.2.2.2.2.2.2.2.2.2.2.2.2.2.2.2.2.2.2.2])], [])
def F19_j1 {β : Type} (k : Nat) (a0 : List (den (.int .u8))) (RET : (Int × Int × Int × Int × Int × Bool × Bool × Bool × Bool × List (den rng) × List (den (.int .u8)) × Int × Int × Int × Int × Int × Bool × Bool × Bool × Bool × List (den rng) × List (den (.int .u8))) → Option β) (b7 : Int × List (den (.int .u8)) × Int) (b6 : List (den seg)) : Option β := (F43 k b7.2.1 b7.2.2 (IntKind.i64.wrap (((b6.length : Nat) : Int) - 1))).bind fun b8 => cond (decide (0 ≤ (IntKind.i64.wrap (b8.1 + 1)))) (cond (decide ((IntKind.i64.wrap (b8.1 + 1)) < ((b6.length : Nat) : Int))) ((F43 k b8.2.1 b8.2.2 8).bind fun b9 => cond (b9.1 == 0) ((F53 k (IntKind.i64.wrap (((((atI b6 (IntKind.i64.wrap (b8.1 + 1))).2).2).1) + 1))).bind fun b10 => cond (decide (0 ≤ b8.1)) (cond (decide (b8.1 < ((b6.length : Nat) : Int))) (RET ((atI b6 b8.1).1, ((atI b6 b8.1).2).1, (((atI b6 b8.1).2).2).1, ((((atI b6 b8.1).2).2).2).1, (((((atI b6 b8.1).2).2).2).2).1, ((((((atI b6 b8.1).2).2).2).2).2).1, (((((((atI b6 b8.1).2).2).2).2).2).2).1, ((((((((atI b6 b8.1).2).2).2).2).2).2).2).1, (((((((((atI b6 b8.1).2).2).2).2).2).2).2).2).1, ((((((((((atI b6 b8.1).2).2).2).2).2).2).2).2).2).1, ((((((((((atI b6 b8.1).2).2).2).2).2).2).2).2).2).2, (atI b6 (IntKind.i64.wrap (b8.1 + 1))).1, ((atI b6 (IntKind.i64.wrap (b8.1 + 1))).2).1, b10, ((((atI b6 (IntKind.i64.wrap (b8.1 + 1))).2).2).2).1, (((((atI b6 (IntKind.i64.wrap (b8.1 + 1))).2).2).2).2).1, ((((((atI b6 (IntKind.i64.wrap (b8.1 + 1))).2).2).2).2).2).1, (((((((atI b6 (IntKind.i64.wrap (b8.1 + 1))).2).2).2).2).2).2).1, ((((((((atI b6 (IntKind.i64.wrap (b8.1 + 1))).2).2).2).2).2).2).2).1, (((((((((atI b6 (IntKind.i64.wrap (b8.1 + 1))).2).2).2).2).2).2).2).2).1, ((((((((((atI b6 (IntKind.i64.wrap (b8.1 + 1))).2).2).2).2).2).2).2).2).2).1, ((((((((((atI b6 (IntKind.i64.wrap (b8.1 + 1))).2).2).2).2).2).2).2).2).2).2)) none) none) (cond (b9.1 == 1) ((F53 k (IntKind.i64.wrap ((((((atI b6 (IntKind.i64.wrap (b8.1 + 1))).2).2).2).1) + 1))).bind fun b11 => cond (decide (0 ≤ b8.1)) (cond (decide (b8.1 < ((b6.length : Nat) : Int))) (RET ((atI b6 b8.1).1, ((atI b6 b8.1).2).1, (((atI b6 b8.1).2).2).1, ((((atI b6 b8.1).2).2).2).1, (((((atI b6 b8.1).2).2).2).2).1, ((((((atI b6 b8.1).2).2).2).2).2).1, (((((((atI b6 b8.1).2).2).2).2).2).2).1, ((((((((atI b6 b8.1).2).2).2).2).2).2).2).1, (((((((((atI b6 b8.1).2).2).2).2).2).2).2).2).1, ((((((((((atI b6 b8.1).2).2).2).2).2).2).2).2).2).1, ((((((((((atI b6 b8.1).2).2).2).2).2).2).2).2).2).2, (atI b6 (IntKind.i64.wrap (b8.1 + 1))).1, ((atI b6 (IntKind.i64.wrap (b8.1 + 1))).2).1, (((atI b6 (IntKind.i64.wrap (b8.1 + 1))).2).2).1, b11, (((((atI b6 (IntKind.i64.wrap (b8.1 + 1))).2).2).2).2).1, ((((((atI b6 (IntKind.i64.wrap (b8.1 + 1))).2).2).2).2).2).1, (((((((atI b6 (IntKind.i64.wrap (b8.1 + 1))).2).2).2).2).2).2).1, ((((((((atI b6 (IntKind.i64.wrap (b8.1 + 1))).2).2).2).2).2).2).2).1, (((((((((atI b6 (IntKind.i64.wrap (b8.1 + 1))).2).2).2).2).2).2).2).2).1, ((((((((((atI b6 (IntKind.i64.wrap (b8.1 + 1))).2).2).2).2).2).2).2).2).2).1, ((((((((((atI b6 (IntKind.i64.wrap (b8.1 + 1))).2).2).2).2).2).2).2).2).2).2)) none) none) (cond (decide (0 ≤ b8.1)) (cond (decide (b8.1 < ((b6.length : Nat) : Int))) (RET ((atI b6 b8.1).1, ((atI b6 b8.1).2).1, (((atI b6 b8.1).2).2).1, ((((atI b6 b8.1).2).2).2).1, (((((atI b6 b8.1).2).2).2).2).1, ((((((atI b6 b8.1).2).2).2).2).2).1, (((((((atI b6 b8.1).2).2).2).2).2).2).1, ((((((((atI b6 b8.1).2).2).2).2).2).2).2).1, (((((((((atI b6 b8.1).2).2).2).2).2).2).2).2).1, ((((((((((atI b6 b8.1).2).2).2).2).2).2).2).2).2).1, ((((((((((atI b6 b8.1).2).2).2).2).2).2).2).2).2).2, (atI b6 (IntKind.i64.wrap (b8.1 + 1))).1, ((atI b6 (IntKind.i64.wrap (b8.1 + 1))).2).1, (((atI b6 (IntKind.i64.wrap (b8.1 + 1))).2).2).1, ((((atI b6 (IntKind.i64.wrap (b8.1 + 1))).2).2).2).1, (((((atI b6 (IntKind.i64.wrap (b8.1 + 1))).2).2).2).2).1, ((((((atI b6 (IntKind.i64.wrap (b8.1 + 1))).2).2).2).2).2).1, (((((((atI b6 (IntKind.i64.wrap (b8.1 + 1))).2).2).2).2).2).2).1, ((((((((atI b6 (IntKind.i64.wrap (b8.1 + 1))).2).2).2).2).2).2).2).1, (((((((((atI b6 (IntKind.i64.wrap (b8.1 + 1))).2).2).2).2).2).2).2).2).1, ((((((((((atI b6 (IntKind.i64.wrap (b8.1 + 1))).2).2).2).2).2).2).2).2).2).1, ((((((((((atI b6 (IntKind.i64.wrap (b8.1 + 1))).2).2).2).2).2).2).2).2).2).2)) none) none))) none) none
def F19_j2 {β : Type} (k : Nat) (a0 : List (den (.int .u8))) (RET : (Int × Int × Int × Int × Int × Bool × Bool × Bool × Bool × List (den rng) × List (den (.int .u8)) × Int × Int × Int × Int × Int × Bool × Bool × Bool × Bool × List (den rng) × List (den (.int .u8))) → Option β) (b7 : Int × List (den (.int .u8)) × Int) (b2 : Int × Int × Int × Int × Int × Bool × Bool × Bool × Bool × List (den rng) × List (den (.int .u8)) × List (den (.int .u8)) × Int) (b4 : List (den (.int .u8)) × List (den (.int .u8)) × Int) : Option β := (F42 k b7.2.1 b7.2.2 6).bind fun b12 => RET (b2.1, b2.2.1, b2.2.2.1, b2.2.2.2.1, b2.2.2.2.2.1, b2.2.2.2.2.2.1, b2.2.2.2.2.2.2.1, b2.2.2.2.2.2.2.2.1, b2.2.2.2.2.2.2.2.2.1, b2.2.2.2.2.2.2.2.2.2.1, b4.1, b12.1, b12.2.1, b12.2.2.1, b12.2.2.2.1, b12.2.2.2.2.1, b12.2.2.2.2.2.1, b12.2.2.2.2.2.2.1, b12.2.2.2.2.2.2.2.1, b12.2.2.2.2.2.2.2.2.1, b12.2.2.2.2.2.2.2.2.2.1, b12.2.2.2.2.2.2.2.2.2.2.1)
def F19_j3 {β : Type} (k : Nat) (a0 : List (den (.int .u8))) (RET : (Int × Int × Int × Int × Int × Bool × Bool × Bool × Bool × List (den rng) × List (den (.int .u8)) × Int × Int × Int × Int × Int × Bool × Bool × Bool × Bool × List (den rng) × List (den (.int .u8))) → Option β) (b16 : Int × List (den (.int .u8)) × Int) (b2 : Int × Int × Int × Int × Int × Bool × Bool × Bool × Bool × List (den rng) × List (den (.int .u8)) × List (den (.int .u8)) × Int) : Option β := (F42 k b16.2.1 b16.2.2 6).bind fun b21 => RET (b2.1, b2.2.1, b2.2.2.1, b2.2.2.2.1, b2.2.2.2.2.1, b2.2.2.2.2.2.1, b2.2.2.2.2.2.2.1, b2.2.2.2.2.2.2.2.1, b2.2.2.2.2.2.2.2.2.1, b2.2.2.2.2.2.2.2.2.2.1, b2.2.2.2.2.2.2.2.2.2.2.1, b21.1, b21.2.1, b21.2.2.1, b21.2.2.2.1, b21.2.2.2.2.1, b21.2.2.2.2.2.1, b21.2.2.2.2.2.2.1, b21.2.2.2.2.2.2.2.1, b21.2.2.2.2.2.2.2.2.1, b21.2.2.2.2.2.2.2.2.2.1, b21.2.2.2.2.2.2.2.2.2.2.1)
def F19_T {β : Type} (k : Nat) (a0 : List (den (.int .u8))) (RET : (Int × Int × Int × Int × Int × Bool × Bool × Bool × Bool × List (den rng) × List (den (.int .u8)) × Int × Int × Int × Int × Int × Bool × Bool × Bool × Bool × List (den rng) × List (den (.int .u8))) → Option β) : Option β := (F41 k a0).bind fun b1 => (F42 k b1.1 b1.2 0).bind fun b2 => cond (!b2.2.2.2.2.2.2.2.2.1) ((F43 k b2.2.2.2.2.2.2.2.2.2.2.2.1 b2.2.2.2.2.2.2.2.2.2.2.2.2 11).bind fun b3 => (F44 k b3.2.1 b3.2.2 (IntKind.i64.wrap (2 + b3.1))).bind fun b4 => (F43 k b4.2.1 b4.2.2 6).bind fun b5 => (F13 k b2.1 b2.2.1 b2.2.2.1 b2.2.2.2.1 b2.2.2.2.2.1 b2.2.2.2.2.2.1 b2.2.2.2.2.2.2.1 b2.2.2.2.2.2.2.2.1 b2.2.2.2.2.2.2.2.2.1 b2.2.2.2.2.2.2.2.2.2.1 b4.1 (IntKind.i64.wrap (1 + b5.1))).bind fun b6 => cond (decide (((b6.length : Nat) : Int) > 1)) ((F43 k b5.2.1 b5.2.2 5).bind fun b7 => cond (decide (b7.1 > 0)) (F19_j1 k a0 RET b7 b6) (F19_j2 k a0 RET b7 b2 b4)) (F19_j2 k a0 RET b5 b2 b4)) ((F43 k b2.2.2.2.2.2.2.2.2.2.2.2.1 b2.2.2.2.2.2.2.2.2.2.2.2.2 6).bind fun b14 => (F13 k b2.1 b2.2.1 b2.2.2.1 b2.2.2.2.1 b2.2.2.2.2.1 b2.2.2.2.2.2.1 b2.2.2.2.2.2.2.1 b2.2.2.2.2.2.2.2.1 b2.2.2.2.2.2.2.2.2.1 b2.2.2.2.2.2.2.2.2.2.1 b2.2.2.2.2.2.2.2.2.2.2.1 (IntKind.i64.wrap (1 + b14.1))).bind fun b15 => cond (decide (((b15.length : Nat) : Int) > 1)) ((F43 k b14.2.1 b14.2.2 5).bind fun b16 => cond (decide (b16.1 > 0)) (F19_j1 k a0 RET b16 b15) (F19_j3 k a0 RET b16 b2)) (F19_j3 k a0 RET b14 b2))
def F19 (k : Nat) (a0 : List (den (.int .u8))) : Option (Int × Int × Int × Int × Int × Bool × Bool × Bool × Bool × List (den rng) × List (den (.int .u8)) × Int × Int × Int × Int × Int × Bool × Bool × Bool × Bool × List (den rng) × List (den (.int .u8))) := F19_T k a0 some
theorem F19_st {β : Type} (k : Nat) (a0 : List (den (.int .u8))) (K : A × List (List Leaf) → Option β) : evalF (F19_E k) Try.f19 (F19_a a0) K =
    F19_T k a0 (fun r => K (F19_r r)) := by kernel_rfl
theorem F19_ev {β : Type} (k : Nat) (a0 : List (den (.int .u8))) (K : A × List (List Leaf) → Option β) : evalF (F19_E k) Try.f19 (F19_a a0) K = (F19 k a0).bind fun r => K (F19_r r) := by
  rw [F19_st, F19]
  simp only [F19_T, F19_j1, F19_j2, F19_j3, bind_cond, Option.bind_assoc, Option.bind_some, Option.bind_none, Option.bind_fun_some]
theorem F19_tOk (k : Nat) : TabFn Try.prog (F19_t k) := .ent (F41_q k) F41_f (.ent (F42_q k) F42_f (.ent (F43_q k) F43_f (.ent (F44_q k) F44_f (.ent (F13_q k) F13_f (.ent (F53_q k) F53_f (.none))))))
theorem F19_con (k : Nat) (a0 : List (den (.int .u8))) : Contract Try.prog 19 (F19_a a0) ⟨F19 k a0, F19_r⟩ := con_of (envOk (F19_tOk k) _ _ _ _) mixed Try.func19 rfl rfl (F19_ev k a0 some)
def F19_sh : List AK := [.one (.l (.sl .ro (.int .u8)))]
def F19_p (k : Nat) : List Arg → Option CR := cle F19_sh fun x => ⟨F19 k x.1, F19_r⟩
theorem F19_q (k : Nat) : ∀ xs cr, F19_p k xs = some cr → Contract Try.prog 19 xs cr := cle_ok fun x => F19_con k _
theorem F19_f : FnOk Try.prog 19 := .of (by kernel_rfl)
/-! 45: loop.example/netstack/impl.in -/
abbrev F45_E (k : Nat) : Env := env noTab noHint .own [] k
abbrev F45_a (a0 a1 a2 : Int) : List Arg := [.one (.l (.v (.int .i64 a0))), .one (.l (.v (.int .i64 a1))), .one (.l (.v (.int .i64 a2)))]
def F45_r (r : Bool) : A × List (List Leaf) := (.one (.v (.bool r)), [])
def F45 (k : Nat) (a0 a1 a2 : Int) : Option (Bool) := cond (decide (a0 ≥ a1)) (some (decide (a0 ≤ a2))) (some false)
theorem F45_st {β : Type} (k : Nat) (a0 a1 a2 : Int) (K : A × List (List Leaf) → Option β) : evalF (F45_E k) Try.f45 (F45_a a0 a1 a2) K =
    cond (decide (a0 ≥ a1)) (K (.one (.v (.bool (decide (a0 ≤ a2)))), [])) (K (.one (.v (.bool false)), [])) := by kernel_rfl
theorem F45_ev {β : Type} (k : Nat) (a0 a1 a2 : Int) (K : A × List (List Leaf) → Option β) : evalF (F45_E k) Try.f45 (F45_a a0 a1 a2) K = (F45 k a0 a1 a2).bind fun r => K (F45_r r) := by
  rw [F45_st, F45]
  simp only [F45_r, bind_cond, Option.bind_assoc, Option.bind_some, Option.bind_none, Option.bind_fun_some]
theorem F45_con (k : Nat) (a0 a1 a2 : Int) : Contract Try.prog 45 (F45_a a0 a1 a2) ⟨F45 k a0 a1 a2, F45_r⟩ := con_of (envOk .none _ _ _ _) mixed Try.func45 rfl rfl (F45_ev k a0 a1 a2 some)
def F45_sh : List AK := [.one (.l (.int .i64)), .one (.l (.int .i64)), .one (.l (.int .i64))]
def F45_p (k : Nat) : List Arg → Option CR := cle F45_sh fun x => ⟨F45 k x.1 x.2.1 x.2.2.1, F45_r⟩
theorem F45_q (k : Nat) : ∀ xs cr, F45_p k xs = some cr → Contract Try.prog 45 xs cr := cle_ok fun x => F45_con k _ _ _
theorem F45_f : FnOk Try.prog 45 := .of (by kernel_rfl)
/-! 54: loop.example/netstack/impl.portOk -/
def F54_t (k : Nat) : Tab := entT 45 (F45_p k) <| noTab
abbrev F54_E (k : Nat) : Env := env (F54_t k) noHint .own [] k
abbrev F54_a (a0 : Int) : List Arg := [.one (.l (.v (.int .i64 a0)))]
def F54_r (r : Bool) : A × List (List Leaf) := (.one (.v (.bool r)), [])
def F54 (k : Nat) (a0 : Int) : Option (Bool) := (F45 k a0 1 255).bind fun b1 => some b1
theorem F54_st {β : Type} (k : Nat) (a0 : Int) (K : A × List (List Leaf) → Option β) : evalF (F54_E k) Try.f54 (F54_a a0) K =
    (F45 k a0 1 255).bind fun b1 => K (.one (.v (.bool b1)), []) := by kernel_rfl
theorem F54_ev {β : Type} (k : Nat) (a0 : Int) (K : A × List (List Leaf) → Option β) : evalF (F54_E k) Try.f54 (F54_a a0) K = (F54 k a0).bind fun r => K (F54_r r) := by
  rw [F54_st, F54]
  simp only [F54_r, bind_cond, Option.bind_assoc, Option.bind_some, Option.bind_none, Option.bind_fun_some]
theorem F54_tOk (k : Nat) : TabFn Try.prog (F54_t k) := .ent (F45_q k) F45_f (.none)
theorem F54_con (k : Nat) (a0 : Int) : Contract Try.prog 54 (F54_a a0) ⟨F54 k a0, F54_r⟩ := con_of (envOk (F54_tOk k) _ _ _ _) mixed Try.func54 rfl rfl (F54_ev k a0 some)
def F54_sh : List AK := [.one (.l (.int .i64))]
def F54_p (k : Nat) : List Arg → Option CR := cle F54_sh fun x => ⟨F54 k x.1, F54_r⟩
theorem F54_q (k : Nat) : ∀ xs cr, F54_p k xs = some cr → Contract Try.prog 54 xs cr := cle_ok fun x => F54_con k _
theorem F54_f : FnOk Try.prog 54 := .of (by kernel_rfl)
/-! 55: loop.example/netstack/impl.word -/
def F55_t (k : Nat) : Tab := entT 45 (F45_p k) <| noTab
abbrev F55_E (k : Nat) : Env := env (F55_t k) noHint .own [] k
abbrev F55_a (a0 : Int) : List Arg := [.one (.l (.v (.int .i64 a0)))]
def F55_r (r : Bool) : A × List (List Leaf) := (.one (.v (.bool r)), [])
def F55 (k : Nat) (a0 : Int) : Option (Bool) := (F45 k a0 0 65535).bind fun b1 => some b1
theorem F55_st {β : Type} (k : Nat) (a0 : Int) (K : A × List (List Leaf) → Option β) : evalF (F55_E k) Try.f55 (F55_a a0) K =
    (F45 k a0 0 65535).bind fun b1 => K (.one (.v (.bool b1)), []) := by kernel_rfl
theorem F55_ev {β : Type} (k : Nat) (a0 : Int) (K : A × List (List Leaf) → Option β) : evalF (F55_E k) Try.f55 (F55_a a0) K = (F55 k a0).bind fun r => K (F55_r r) := by
  rw [F55_st, F55]
  simp only [F55_r, bind_cond, Option.bind_assoc, Option.bind_some, Option.bind_none, Option.bind_fun_some]
theorem F55_tOk (k : Nat) : TabFn Try.prog (F55_t k) := .ent (F45_q k) F45_f (.none)
theorem F55_con (k : Nat) (a0 : Int) : Contract Try.prog 55 (F55_a a0) ⟨F55 k a0, F55_r⟩ := con_of (envOk (F55_tOk k) _ _ _ _) mixed Try.func55 rfl rfl (F55_ev k a0 some)
def F55_sh : List AK := [.one (.l (.int .i64))]
def F55_p (k : Nat) : List Arg → Option CR := cle F55_sh fun x => ⟨F55 k x.1, F55_r⟩
theorem F55_q (k : Nat) : ∀ xs cr, F55_p k xs = some cr → Contract Try.prog 55 xs cr := cle_ok fun x => F55_con k _
theorem F55_f : FnOk Try.prog 55 := .of (by kernel_rfl)
/-! 57: loop.example/netstack/impl.SegmentOk$1 -/
def F57_t (k : Nat) : Tab := entT 55 (F55_p k) <| noTab
abbrev F57_E (k : Nat) : Env := env (F57_t k) noHint .own [] k
abbrev F57_a (a0_0 a0_1 : Int) : List Arg := [.agg [.l (.v (.int .i64 a0_0)), .l (.v (.int .i64 a0_1))]]
def F57_r (r : Bool) : A × List (List Leaf) := (.one (.v (.bool r)), [])
def F57 (k : Nat) (a0_0 a0_1 : Int) : Option (Bool) := (F55 k a0_0).bind fun b1 => cond (!b1) (some true) ((F55 k a0_1).bind fun b2 => some (!b2))
theorem F57_st {β : Type} (k : Nat) (a0_0 a0_1 : Int) (K : A × List (List Leaf) → Option β) : evalF (F57_E k) Try.f57 (F57_a a0_0 a0_1) K =
    (F55 k a0_0).bind fun b1 => cond (!b1) (K (.one (.v (.bool true)), [])) ((F55 k a0_1).bind fun b2 => K (.one (.v (.bool (!b2))), [])) := by kernel_rfl
theorem F57_ev {β : Type} (k : Nat) (a0_0 a0_1 : Int) (K : A × List (List Leaf) → Option β) : evalF (F57_E k) Try.f57 (F57_a a0_0 a0_1) K = (F57 k a0_0 a0_1).bind fun r => K (F57_r r) := by
  rw [F57_st, F57]
  simp only [F57_r, bind_cond, Option.bind_assoc, Option.bind_some, Option.bind_none, Option.bind_fun_some]
theorem F57_tOk (k : Nat) : TabFn Try.prog (F57_t k) := .ent (F55_q k) F55_f (.none)
theorem F57_con (k : Nat) (a0_0 a0_1 : Int) : Contract Try.prog 57 (F57_a a0_0 a0_1) ⟨F57 k a0_0 a0_1, F57_r⟩ := con_of (envOk (F57_tOk k) _ _ _ _) mixed Try.func57 rfl rfl (F57_ev k a0_0 a0_1 some)
def F57_sh : List AK := [.agg [.l (.int .i64), .l (.int .i64)]]
def F57_p (k : Nat) : List Arg → Option CR := cle F57_sh fun x => ⟨F57 k x.1.1 x.1.2.1, F57_r⟩
theorem F57_q (k : Nat) : ∀ xs cr, F57_p k xs = some cr → Contract Try.prog 57 xs cr := cle_ok fun x => F57_con k _ _
theorem F57_f : FnOk Try.prog 57 := .of (by kernel_rfl)
/-! 90: slices.IndexFunc[[]loop.example/netstack/impl.Range,loop.example/netstack/impl.Range] -/
def F90_h : Nat → Hint
  | 0 => ⟨[(0, .plain), (1, .plain), (7, .plain), (8, .plain)], []⟩
  | _ => ⟨[], []⟩
def F90_t (k : Nat) : Tab := entT 57 (F57_p k) <| noTab
abbrev F90_E (k : Nat) : Env := env (F90_t k) F90_h .own [] k
abbrev F90_a (a0 : List (den rng)) : List Arg := [.one (.l (.s .ro rng a0)), .one (.fn 57 [])]
def F90_r (r : Int) : A × List (List Leaf) := (.one (.v (.int .i64 r)), [])
def F90_s0 (a0 : List (den rng)) (x8_0 : Int) : St := ⟨(.one (.s .ro rng a0)) :: (.one (.fn 57 [])) :: dz 5 ((.one (.v (.int .i64 ((a0.length : Nat) : Int)))) :: (.one (.v (.int .i64 x8_0))) :: dz 10 []), []⟩
def F90_l0_T {β : Type} (k : Nat) (a0 : List (den rng)) (NX : Int → Option β) (RET : Int → Option β) (x8_0 : Int) : Option β := cond (decide (x8_0 < ((a0.length : Nat) : Int))) (cond (decide (0 ≤ x8_0)) (cond (decide (x8_0 < ((a0.length : Nat) : Int))) ((F57 k ((atI a0 x8_0).1) ((atI a0 x8_0).2)).bind fun b1 => cond b1 (RET x8_0) (NX (IntKind.i64.wrap (x8_0 + 1)))) none) none) (RET (-1))
def F90_l0 (k : Nat) (a0 : List (den rng)) : Nat → Int → Option (Int)
  | 0, _ => none
  | n + 1, x8_0 => F90_l0_T k a0 (fun x8_0 => F90_l0 k a0 n x8_0) some x8_0
theorem F90_l0_rd {β : Type} (k n : Nat) (a0 : List (den rng)) (x8_0 : Int) (K : A × List (List Leaf) → Option β) :
    loopG (F90_E k) Try.f90 [1, 0, 1, 0] 0 (kontAt (F90_E k) [1, 0, 1, 0] (bodyOf Try.f90) 0 (endC (F90_E k) Try.f90 (F90_a a0) K)) (n + 1) (F90_s0 a0 x8_0) =
    F90_l0_T k a0 (fun x8_0 => loopG (F90_E k) Try.f90 [1, 0, 1, 0] 0 (kontAt (F90_E k) [1, 0, 1, 0] (bodyOf Try.f90) 0 (endC (F90_E k) Try.f90 (F90_a a0) K)) n (F90_s0 a0 x8_0)) (fun r => K (F90_r r)) x8_0 := by kernel_rfl
theorem F90_l0_lp {β : Type} (k : Nat) (a0 : List (den rng)) (K : A × List (List Leaf) → Option β) (n : Nat) : ∀ (x8_0 : Int), loopG (F90_E k) Try.f90 [1, 0, 1, 0] 0 (kontAt (F90_E k) [1, 0, 1, 0] (bodyOf Try.f90) 0 (endC (F90_E k) Try.f90 (F90_a a0) K)) n (F90_s0 a0 x8_0) =
    (F90_l0 k a0 n x8_0).bind fun r => K (F90_r r) := by
  induction n with
  | zero => intros; rfl
  | succ n ih =>
    intros
    rw [F90_l0_rd, F90_l0]
    simp only [F90_l0_T, bind_cond, Option.bind_assoc, Option.bind_some, Option.bind_none, Option.bind_fun_some, ih]
def F90_T {β : Type} (k : Nat) (a0 : List (den rng)) (LP0 : Int → Option β) : Option β := LP0 0
def F90 (k : Nat) (a0 : List (den rng)) : Option (Int) := F90_T k a0 (fun x8_0 => F90_l0 k a0 k x8_0)
theorem F90_st {β : Type} (k : Nat) (a0 : List (den rng)) (K : A × List (List Leaf) → Option β) : evalF (F90_E k) Try.f90 (F90_a a0) K =
    F90_T k a0 (fun x8_0 => loopG (F90_E k) Try.f90 [1, 0, 1, 0] 0 (kontAt (F90_E k) [1, 0, 1, 0] (bodyOf Try.f90) 0 (endC (F90_E k) Try.f90 (F90_a a0) K)) k (F90_s0 a0 x8_0)) := by kernel_rfl
theorem F90_ev {β : Type} (k : Nat) (a0 : List (den rng)) (K : A × List (List Leaf) → Option β) : evalF (F90_E k) Try.f90 (F90_a a0) K = (F90 k a0).bind fun r => K (F90_r r) := by
  rw [F90_st, F90]
  simp only [F90_T, bind_cond, Option.bind_assoc, Option.bind_some, Option.bind_none, Option.bind_fun_some, F90_l0_lp]
theorem F90_tOk (k : Nat) : TabFn Try.prog (F90_t k) := .ent (F57_q k) F57_f (.none)
theorem F90_con (k : Nat) (a0 : List (den rng)) : Contract Try.prog 90 (F90_a a0) ⟨F90 k a0, F90_r⟩ := con_of (envOk (F90_tOk k) _ _ _ _) mixed Try.func90 rfl rfl (F90_ev k a0 some)
def F90_sh : List AK := [.one (.l (.sl .ro rng)), .one (.fn 57)]
def F90_p (k : Nat) : List Arg → Option CR := cle F90_sh fun x => ⟨F90 k x.1, F90_r⟩
theorem F90_q (k : Nat) : ∀ xs cr, F90_p k xs = some cr → Contract Try.prog 90 xs cr := cle_ok fun x => F90_con k _
theorem F90_f : FnOk Try.prog 90 := .of (by kernel_rfl)
/-! 56: slices.ContainsFunc[[]loop.example/netstack/impl.Range,loop.example/netstack/impl.Range] -/
def F56_t (k : Nat) : Tab := entT 90 (F90_p k) <| noTab
abbrev F56_E (k : Nat) : Env := env (F56_t k) noHint .own [] k
abbrev F56_a (a0 : List (den rng)) : List Arg := [.one (.l (.s .ro rng a0)), .one (.fn 57 [])]
def F56_r (r : Bool) : A × List (List Leaf) := (.one (.v (.bool r)), [])
def F56 (k : Nat) (a0 : List (den rng)) : Option (Bool) := (F90 k a0).bind fun b1 => some (decide (b1 ≥ 0))
theorem F56_st {β : Type} (k : Nat) (a0 : List (den rng)) (K : A × List (List Leaf) → Option β) : evalF (F56_E k) Try.f56 (F56_a a0) K =
    (F90 k a0).bind fun b1 => K (.one (.v (.bool (decide (b1 ≥ 0)))), []) := by kernel_rfl
theorem F56_ev {β : Type} (k : Nat) (a0 : List (den rng)) (K : A × List (List Leaf) → Option β) : evalF (F56_E k) Try.f56 (F56_a a0) K = (F56 k a0).bind fun r => K (F56_r r) := by
  rw [F56_st, F56]
  simp only [F56_r, bind_cond, Option.bind_assoc, Option.bind_some, Option.bind_none, Option.bind_fun_some]
theorem F56_tOk (k : Nat) : TabFn Try.prog (F56_t k) := .ent (F90_q k) F90_f (.none)
theorem F56_con (k : Nat) (a0 : List (den rng)) : Contract Try.prog 56 (F56_a a0) ⟨F56 k a0, F56_r⟩ := con_of (envOk (F56_tOk k) _ _ _ _) mixed Try.func56 rfl rfl (F56_ev k a0 some)
def F56_sh : List AK := [.one (.l (.sl .ro rng)), .one (.fn 57)]
def F56_p (k : Nat) : List Arg → Option CR := cle F56_sh fun x => ⟨F56 k x.1, F56_r⟩
theorem F56_q (k : Nat) : ∀ xs cr, F56_p k xs = some cr → Contract Try.prog 56 xs cr := cle_ok fun x => F56_con k _
theorem F56_f : FnOk Try.prog 56 := .of (by kernel_rfl)
/-! 14: loop.example/netstack/impl.SegmentOk -/
def F14_t (k : Nat) : Tab := entT 54 (F54_p k) <| entT 55 (F55_p k) <| entT 45 (F45_p k) <| entT 56 (F56_p k) <| noTab
abbrev F14_E (k : Nat) : Env := env (F14_t k) noHint .own [] k
abbrev F14_a (a0_0 a0_1 a0_2 a0_3 a0_4 : Int) (a0_5 a0_6 a0_7 a0_8 : Bool) (a0_9 : List (den rng)) (a0_10 : List (den (.int .u8))) : List Arg := [.agg [.l (.v (.int .i64 a0_0)), .l (.v (.int .i64 a0_1)), .l (.v (.int .i64 a0_2)), .l (.v (.int .i64 a0_3)), .l (.v (.int .i64 a0_4)), .l (.v (.bool a0_5)), .l (.v (.bool a0_6)), .l (.v (.bool a0_7)), .l (.v (.bool a0_8)), .l (.s .ro rng a0_9), .l (.s .ro (.int .u8) a0_10)]]
def F14_r (r : Bool) : A × List (List Leaf) := (.one (.v (.bool r)), [])
def F14_T {β : Type} (k : Nat) (a0_0 a0_1 a0_2 a0_3 a0_4 : Int) (a0_5 a0_6 a0_7 a0_8 : Bool) (a0_9 : List (den rng)) (a0_10 : List (den (.int .u8))) (RET : Bool → Option β) : Option β := (F54 k a0_0).bind fun b1 => cond (!b1) (RET false) ((F54 k a0_1).bind fun b2 => cond (!b2) (RET false) ((F55 k a0_2).bind fun b3 => cond (!b3) (RET false) ((F55 k a0_3).bind fun b4 => cond (!b4) (RET false) ((F45 k a0_4 0 255).bind fun b5 => cond (!b5) (RET false) (cond (decide (((a0_9.length : Nat) : Int) > 2)) (RET false) (cond (decide (((a0_10.length : Nat) : Int) > 12)) (RET false) ((F56 k a0_9).bind fun b6 => cond b6 (RET false) (cond (!a0_6) (cond (a0_3 != 0) (RET false) (cond (a0_4 != 0) (RET false) (cond (decide (((a0_9.length : Nat) : Int) > 0)) (RET false) (cond (!a0_8) (RET true) (cond (!a0_5) (cond (!a0_7) (RET (((a0_10.length : Nat) : Int) == 0)) (RET false)) (RET false)))))) (cond (!a0_8) (RET true) (cond (!a0_5) (cond (!a0_7) (RET (((a0_10.length : Nat) : Int) == 0)) (RET false)) (RET false)))))))))))
def F14 (k : Nat) (a0_0 a0_1 a0_2 a0_3 a0_4 : Int) (a0_5 a0_6 a0_7 a0_8 : Bool) (a0_9 : List (den rng)) (a0_10 : List (den (.int .u8))) : Option (Bool) := F14_T k a0_0 a0_1 a0_2 a0_3 a0_4 a0_5 a0_6 a0_7 a0_8 a0_9 a0_10 some
theorem F14_st {β : Type} (k : Nat) (a0_0 a0_1 a0_2 a0_3 a0_4 : Int) (a0_5 a0_6 a0_7 a0_8 : Bool) (a0_9 : List (den rng)) (a0_10 : List (den (.int .u8))) (K : A × List (List Leaf) → Option β) : evalF (F14_E k) Try.f14 (F14_a a0_0 a0_1 a0_2 a0_3 a0_4 a0_5 a0_6 a0_7 a0_8 a0_9 a0_10) K =
    F14_T k a0_0 a0_1 a0_2 a0_3 a0_4 a0_5 a0_6 a0_7 a0_8 a0_9 a0_10 (fun r => K (F14_r r)) := by kernel_rfl
theorem F14_ev {β : Type} (k : Nat) (a0_0 a0_1 a0_2 a0_3 a0_4 : Int) (a0_5 a0_6 a0_7 a0_8 : Bool) (a0_9 : List (den rng)) (a0_10 : List (den (.int .u8))) (K : A × List (List Leaf) → Option β) : evalF (F14_E k) Try.f14 (F14_a a0_0 a0_1 a0_2 a0_3 a0_4 a0_5 a0_6 a0_7 a0_8 a0_9 a0_10) K = (F14 k a0_0 a0_1 a0_2 a0_3 a0_4 a0_5 a0_6 a0_7 a0_8 a0_9 a0_10).bind fun r => K (F14_r r) := by
  rw [F14_st, F14]
  simp only [F14_T, bind_cond, Option.bind_assoc, Option.bind_some, Option.bind_none, Option.bind_fun_some]
theorem F14_tOk (k : Nat) : TabFn Try.prog (F14_t k) := .ent (F54_q k) F54_f (.ent (F55_q k) F55_f (.ent (F45_q k) F45_f (.ent (F56_q k) F56_f (.none))))
theorem F14_con (k : Nat) (a0_0 a0_1 a0_2 a0_3 a0_4 : Int) (a0_5 a0_6 a0_7 a0_8 : Bool) (a0_9 : List (den rng)) (a0_10 : List (den (.int .u8))) : Contract Try.prog 14 (F14_a a0_0 a0_1 a0_2 a0_3 a0_4 a0_5 a0_6 a0_7 a0_8 a0_9 a0_10) ⟨F14 k a0_0 a0_1 a0_2 a0_3 a0_4 a0_5 a0_6 a0_7 a0_8 a0_9 a0_10, F14_r⟩ := con_of (envOk (F14_tOk k) _ _ _ _) mixed Try.func14 rfl rfl (F14_ev k a0_0 a0_1 a0_2 a0_3 a0_4 a0_5 a0_6 a0_7 a0_8 a0_9 a0_10 some)
def F14_sh : List AK := [.agg [.l (.int .i64), .l (.int .i64), .l (.int .i64), .l (.int .i64), .l (.int .i64), .l (.bool), .l (.bool), .l (.bool), .l (.bool), .l (.sl .ro rng), .l (.sl .ro (.int .u8))]]
def F14_p (k : Nat) : List Arg → Option CR := cle F14_sh fun x => ⟨F14 k x.1.1 x.1.2.1 x.1.2.2.1 x.1.2.2.2.1 x.1.2.2.2.2.1 x.1.2.2.2.2.2.1 x.1.2.2.2.2.2.2.1 x.1.2.2.2.2.2.2.2.1 x.1.2.2.2.2.2.2.2.2.1 x.1.2.2.2.2.2.2.2.2.2.1 x.1.2.2.2.2.2.2.2.2.2.2.1, F14_r⟩
theorem F14_q (k : Nat) : ∀ xs cr, F14_p k xs = some cr → Contract Try.prog 14 xs cr := cle_ok fun x => F14_con k _ _ _ _ _ _ _ _ _ _ _
theorem F14_f : FnOk Try.prog 14 := .of (by kernel_rfl)
/-! 61: slices.Equal[[]loop.example/netstack/impl.Range,loop.example/netstack/impl.Range] -/
def F61_h : Nat → Hint
  | 0 => ⟨[(0, .plain), (1, .plain), (12, .plain), (13, .plain)], []⟩
  | _ => ⟨[], []⟩
abbrev F61_E (k : Nat) : Env := env noTab F61_h .own [] k
abbrev F61_a (a0 a1 : List (den rng)) : List Arg := [.one (.l (.s .ro rng a0)), .one (.l (.s .ro rng a1))]
def F61_r (r : Bool) : A × List (List Leaf) := (.one (.v (.bool r)), [])
def F61_s0 (a0 a1 : List (den rng)) (x13_0 : Int) : St := ⟨(.one (.s .ro rng a0)) :: (.one (.s .ro rng a1)) :: dz 10 ((.one (.v (.int .i64 ((a0.length : Nat) : Int)))) :: (.one (.v (.int .i64 x13_0))) :: dz 12 []), []⟩
def F61_l0_T {β : Type} (k : Nat) (a0 a1 : List (den rng)) (NX : Int → Option β) (RET : Bool → Option β) (x13_0 : Int) : Option β := cond (decide (x13_0 < ((a0.length : Nat) : Int))) (cond (decide (0 ≤ x13_0)) (cond (decide (x13_0 < ((a0.length : Nat) : Int))) (cond (decide (0 ≤ x13_0)) (cond (decide (x13_0 < ((a1.length : Nat) : Int))) (cond (!(eqD rng (atI a0 x13_0) (atI a1 x13_0))) (RET false) (NX (IntKind.i64.wrap (x13_0 + 1)))) none) none) none) none) (RET true)
def F61_l0 (k : Nat) (a0 a1 : List (den rng)) : Nat → Int → Option (Bool)
  | 0, _ => none
  | n + 1, x13_0 => F61_l0_T k a0 a1 (fun x13_0 => F61_l0 k a0 a1 n x13_0) some x13_0
theorem F61_l0_rd {β : Type} (k n : Nat) (a0 a1 : List (den rng)) (x13_0 : Int) (K : A × List (List Leaf) → Option β) :
    loopG (F61_E k) Try.f61 [1, 1, 0, 1, 0] 0 (kontAt (F61_E k) [1, 1, 0, 1, 0] (bodyOf Try.f61) 0 (endC (F61_E k) Try.f61 (F61_a a0 a1) K)) (n + 1) (F61_s0 a0 a1 x13_0) =
    F61_l0_T k a0 a1 (fun x13_0 => loopG (F61_E k) Try.f61 [1, 1, 0, 1, 0] 0 (kontAt (F61_E k) [1, 1, 0, 1, 0] (bodyOf Try.f61) 0 (endC (F61_E k) Try.f61 (F61_a a0 a1) K)) n (F61_s0 a0 a1 x13_0)) (fun r => K (F61_r r)) x13_0 := by kernel_rfl
theorem F61_l0_lp {β : Type} (k : Nat) (a0 a1 : List (den rng)) (K : A × List (List Leaf) → Option β) (n : Nat) : ∀ (x13_0 : Int), loopG (F61_E k) Try.f61 [1, 1, 0, 1, 0] 0 (kontAt (F61_E k) [1, 1, 0, 1, 0] (bodyOf Try.f61) 0 (endC (F61_E k) Try.f61 (F61_a a0 a1) K)) n (F61_s0 a0 a1 x13_0) =
    (F61_l0 k a0 a1 n x13_0).bind fun r => K (F61_r r) := by
  induction n with
  | zero => intros; rfl
  | succ n ih =>
    intros
    rw [F61_l0_rd, F61_l0]
    simp only [F61_l0_T, bind_cond, Option.bind_assoc, Option.bind_some, Option.bind_none, Option.bind_fun_some, ih]
def F61_T {β : Type} (k : Nat) (a0 a1 : List (den rng)) (LP0 : Int → Option β) (RET : Bool → Option β) : Option β := cond (((a0.length : Nat) : Int) != ((a1.length : Nat) : Int)) (RET false) (LP0 0)
def F61 (k : Nat) (a0 a1 : List (den rng)) : Option (Bool) := F61_T k a0 a1 (fun x13_0 => F61_l0 k a0 a1 k x13_0) some
theorem F61_st {β : Type} (k : Nat) (a0 a1 : List (den rng)) (K : A × List (List Leaf) → Option β) : evalF (F61_E k) Try.f61 (F61_a a0 a1) K =
    F61_T k a0 a1 (fun x13_0 => loopG (F61_E k) Try.f61 [1, 1, 0, 1, 0] 0 (kontAt (F61_E k) [1, 1, 0, 1, 0] (bodyOf Try.f61) 0 (endC (F61_E k) Try.f61 (F61_a a0 a1) K)) k (F61_s0 a0 a1 x13_0)) (fun r => K (F61_r r)) := by kernel_rfl
theorem F61_ev {β : Type} (k : Nat) (a0 a1 : List (den rng)) (K : A × List (List Leaf) → Option β) : evalF (F61_E k) Try.f61 (F61_a a0 a1) K = (F61 k a0 a1).bind fun r => K (F61_r r) := by
  rw [F61_st, F61]
  simp only [F61_T, bind_cond, Option.bind_assoc, Option.bind_some, Option.bind_none, Option.bind_fun_some, F61_l0_lp]
theorem F61_con (k : Nat) (a0 a1 : List (den rng)) : Contract Try.prog 61 (F61_a a0 a1) ⟨F61 k a0 a1, F61_r⟩ := con_of (envOk .none _ _ _ _) mixed Try.func61 rfl rfl (F61_ev k a0 a1 some)
def F61_sh : List AK := [.one (.l (.sl .ro rng)), .one (.l (.sl .ro rng))]
def F61_p (k : Nat) : List Arg → Option CR := cle F61_sh fun x => ⟨F61 k x.1 x.2.1, F61_r⟩
theorem F61_q (k : Nat) : ∀ xs cr, F61_p k xs = some cr → Contract Try.prog 61 xs cr := cle_ok fun x => F61_con k _ _
theorem F61_f : FnOk Try.prog 61 := .of (by kernel_rfl)
/-! 59: loop.example/netstack/impl.bit -/
abbrev F59_E (k : Nat) : Env := env noTab noHint .own [] k
abbrev F59_a (a0 : Bool) (a1 : Int) : List Arg := [.one (.l (.v (.bool a0))), .one (.l (.v (.int .i64 a1)))]
def F59_r (r : Int) : A × List (List Leaf) := (.one (.v (.int .i64 r)), [])
def F59 (k : Nat) (a0 : Bool) (a1 : Int) : Option (Int) := cond a0 (some a1) (some 0)
theorem F59_st {β : Type} (k : Nat) (a0 : Bool) (a1 : Int) (K : A × List (List Leaf) → Option β) : evalF (F59_E k) Try.f59 (F59_a a0 a1) K =
    cond a0 (K (.one (.v (.int .i64 a1)), [])) (K (.one (.v (.int .i64 0)), [])) := by kernel_rfl
theorem F59_ev {β : Type} (k : Nat) (a0 : Bool) (a1 : Int) (K : A × List (List Leaf) → Option β) : evalF (F59_E k) Try.f59 (F59_a a0 a1) K = (F59 k a0 a1).bind fun r => K (F59_r r) := by
  rw [F59_st, F59]
  simp only [F59_r, bind_cond, Option.bind_assoc, Option.bind_some, Option.bind_none, Option.bind_fun_some]
theorem F59_con (k : Nat) (a0 : Bool) (a1 : Int) : Contract Try.prog 59 (F59_a a0 a1) ⟨F59 k a0 a1, F59_r⟩ := con_of (envOk .none _ _ _ _) mixed Try.func59 rfl rfl (F59_ev k a0 a1 some)
def F59_sh : List AK := [.one (.l (.bool)), .one (.l (.int .i64))]
def F59_p (k : Nat) : List Arg → Option CR := cle F59_sh fun x => ⟨F59 k x.1 x.2.1, F59_r⟩
theorem F59_q (k : Nat) : ∀ xs cr, F59_p k xs = some cr → Contract Try.prog 59 xs cr := cle_ok fun x => F59_con k _ _
theorem F59_f : FnOk Try.prog 59 := .of (by kernel_rfl)
/-! 16: loop.example/netstack/impl.SegmentLong -/
def F16_t (k : Nat) : Tab := entT 59 (F59_p k) <| noTab
abbrev F16_E (k : Nat) : Env := env (F16_t k) noHint .own [] k
abbrev F16_a (a0_0 a0_1 a0_2 a0_3 a0_4 : Int) (a0_5 a0_6 a0_7 a0_8 : Bool) (a0_9 : List (den rng)) (a0_10 : List (den (.int .u8))) : List Arg := [.agg [.l (.v (.int .i64 a0_0)), .l (.v (.int .i64 a0_1)), .l (.v (.int .i64 a0_2)), .l (.v (.int .i64 a0_3)), .l (.v (.int .i64 a0_4)), .l (.v (.bool a0_5)), .l (.v (.bool a0_6)), .l (.v (.bool a0_7)), .l (.v (.bool a0_8)), .l (.s .ro rng a0_9), .l (.s .ro (.int .u8) a0_10)]]
def F16_r (r : Int) : A × List (List Leaf) := (.one (.v (.int .i64 r)), [])
def F16_T {β : Type} (k : Nat) (a0_0 a0_1 a0_2 a0_3 a0_4 : Int) (a0_5 a0_6 a0_7 a0_8 : Bool) (a0_9 : List (den rng)) (a0_10 : List (den (.int .u8))) (RET : Int → Option β) : Option β := (F59 k a0_5 1).bind fun b1 => (F59 k a0_7 1).bind fun b2 => RET (IntKind.i64.wrap ((IntKind.i64.wrap (((a0_10.length : Nat) : Int) + b1)) + b2))
def F16 (k : Nat) (a0_0 a0_1 a0_2 a0_3 a0_4 : Int) (a0_5 a0_6 a0_7 a0_8 : Bool) (a0_9 : List (den rng)) (a0_10 : List (den (.int .u8))) : Option (Int) := F16_T k a0_0 a0_1 a0_2 a0_3 a0_4 a0_5 a0_6 a0_7 a0_8 a0_9 a0_10 some
theorem F16_st {β : Type} (k : Nat) (a0_0 a0_1 a0_2 a0_3 a0_4 : Int) (a0_5 a0_6 a0_7 a0_8 : Bool) (a0_9 : List (den rng)) (a0_10 : List (den (.int .u8))) (K : A × List (List Leaf) → Option β) : evalF (F16_E k) Try.f16 (F16_a a0_0 a0_1 a0_2 a0_3 a0_4 a0_5 a0_6 a0_7 a0_8 a0_9 a0_10) K =
    F16_T k a0_0 a0_1 a0_2 a0_3 a0_4 a0_5 a0_6 a0_7 a0_8 a0_9 a0_10 (fun r => K (F16_r r)) := by kernel_rfl
theorem F16_ev {β : Type} (k : Nat) (a0_0 a0_1 a0_2 a0_3 a0_4 : Int) (a0_5 a0_6 a0_7 a0_8 : Bool) (a0_9 : List (den rng)) (a0_10 : List (den (.int .u8))) (K : A × List (List Leaf) → Option β) : evalF (F16_E k) Try.f16 (F16_a a0_0 a0_1 a0_2 a0_3 a0_4 a0_5 a0_6 a0_7 a0_8 a0_9 a0_10) K = (F16 k a0_0 a0_1 a0_2 a0_3 a0_4 a0_5 a0_6 a0_7 a0_8 a0_9 a0_10).bind fun r => K (F16_r r) := by
  rw [F16_st, F16]
  simp only [F16_T, bind_cond, Option.bind_assoc, Option.bind_some, Option.bind_none, Option.bind_fun_some]
theorem F16_tOk (k : Nat) : TabFn Try.prog (F16_t k) := .ent (F59_q k) F59_f (.none)
theorem F16_con (k : Nat) (a0_0 a0_1 a0_2 a0_3 a0_4 : Int) (a0_5 a0_6 a0_7 a0_8 : Bool) (a0_9 : List (den rng)) (a0_10 : List (den (.int .u8))) : Contract Try.prog 16 (F16_a a0_0 a0_1 a0_2 a0_3 a0_4 a0_5 a0_6 a0_7 a0_8 a0_9 a0_10) ⟨F16 k a0_0 a0_1 a0_2 a0_3 a0_4 a0_5 a0_6 a0_7 a0_8 a0_9 a0_10, F16_r⟩ := con_of (envOk (F16_tOk k) _ _ _ _) mixed Try.func16 rfl rfl (F16_ev k a0_0 a0_1 a0_2 a0_3 a0_4 a0_5 a0_6 a0_7 a0_8 a0_9 a0_10 some)
def F16_sh : List AK := [.agg [.l (.int .i64), .l (.int .i64), .l (.int .i64), .l (.int .i64), .l (.int .i64), .l (.bool), .l (.bool), .l (.bool), .l (.bool), .l (.sl .ro rng), .l (.sl .ro (.int .u8))]]
def F16_p (k : Nat) : List Arg → Option CR := cle F16_sh fun x => ⟨F16 k x.1.1 x.1.2.1 x.1.2.2.1 x.1.2.2.2.1 x.1.2.2.2.2.1 x.1.2.2.2.2.2.1 x.1.2.2.2.2.2.2.1 x.1.2.2.2.2.2.2.2.1 x.1.2.2.2.2.2.2.2.2.1 x.1.2.2.2.2.2.2.2.2.2.1 x.1.2.2.2.2.2.2.2.2.2.2.1, F16_r⟩
theorem F16_q (k : Nat) : ∀ xs cr, F16_p k xs = some cr → Contract Try.prog 16 xs cr := cle_ok fun x => F16_con k _ _ _ _ _ _ _ _ _ _ _
theorem F16_f : FnOk Try.prog 16 := .of (by kernel_rfl)
/-! 48: loop.example/netstack/impl.SeqOf -/
abbrev F48_E (k : Nat) : Env := env noTab noHint .own [] k
abbrev F48_a (a0 : Int) : List Arg := [.one (.l (.v (.int .i64 a0)))]
def F48_r (r : Int) : A × List (List Leaf) := (.one (.v (.int .i64 r)), [])
def F48 (k : Nat) (a0 : Int) : Option (Int) := some ((IntKind.i64.wrap ((a0.tmod 65536) + 65536)).tmod 65536)
theorem F48_st {β : Type} (k : Nat) (a0 : Int) (K : A × List (List Leaf) → Option β) : evalF (F48_E k) Try.f48 (F48_a a0) K =
    K (.one (.v (.int .i64 ((IntKind.i64.wrap ((a0.tmod 65536) + 65536)).tmod 65536))), []) := by kernel_rfl
theorem F48_ev {β : Type} (k : Nat) (a0 : Int) (K : A × List (List Leaf) → Option β) : evalF (F48_E k) Try.f48 (F48_a a0) K = (F48 k a0).bind fun r => K (F48_r r) := by
  rw [F48_st, F48]
  simp only [F48_r, bind_cond, Option.bind_assoc, Option.bind_some, Option.bind_none, Option.bind_fun_some]
theorem F48_con (k : Nat) (a0 : Int) : Contract Try.prog 48 (F48_a a0) ⟨F48 k a0, F48_r⟩ := con_of (envOk .none _ _ _ _) mixed Try.func48 rfl rfl (F48_ev k a0 some)
def F48_sh : List AK := [.one (.l (.int .i64))]
def F48_p (k : Nat) : List Arg → Option CR := cle F48_sh fun x => ⟨F48 k x.1, F48_r⟩
theorem F48_q (k : Nat) : ∀ xs cr, F48_p k xs = some cr → Contract Try.prog 48 xs cr := cle_ok fun x => F48_con k _
theorem F48_f : FnOk Try.prog 48 := .of (by kernel_rfl)
/-! 113: slices.Clip[[]loop.example/netstack/impl.Range,loop.example/netstack/impl.Range] -/
abbrev F113_E (k : Nat) : Env := env noTab noHint .own [] k
abbrev F113_a (a0 : List (den rng)) : List Arg := [.one (.l (.s .own rng a0))]
def F113_r (r : List (den rng)) : A × List (List Leaf) := (.one (.s .own rng r), [])
def F113_T {β : Type} (k : Nat) (a0 : List (den rng)) (RET : List (den rng) → Option β) : Option β := cond (decide (0 ≤ ((a0.length : Nat) : Int)) && decide (((a0.length : Nat) : Int) ≤ ((a0.length : Nat) : Int))) (cond (decide (((a0.length : Nat) : Int) = ((a0.length : Nat) : Int))) (RET ((a0.take (((a0.length : Nat) : Int).toNat)).drop 0)) none) none
def F113 (k : Nat) (a0 : List (den rng)) : Option (List (den rng)) := F113_T k a0 some
theorem F113_st {β : Type} (k : Nat) (a0 : List (den rng)) (K : A × List (List Leaf) → Option β) : evalF (F113_E k) Try.f113 (F113_a a0) K =
    F113_T k a0 (fun r => K (F113_r r)) := by kernel_rfl
theorem F113_ev {β : Type} (k : Nat) (a0 : List (den rng)) (K : A × List (List Leaf) → Option β) : evalF (F113_E k) Try.f113 (F113_a a0) K = (F113 k a0).bind fun r => K (F113_r r) := by
  rw [F113_st, F113]
  simp only [F113_T, bind_cond, Option.bind_assoc, Option.bind_some, Option.bind_none, Option.bind_fun_some]
theorem F113_con (k : Nat) (a0 : List (den rng)) : Contract Try.prog 113 (F113_a a0) ⟨F113 k a0, F113_r⟩ := con_of (envOk .none _ _ _ _) mixed Try.func113 rfl rfl (F113_ev k a0 some)
def F113_sh : List AK := [.one (.l (.sl .own rng))]
def F113_p (k : Nat) : List Arg → Option CR := cle F113_sh fun x => ⟨F113 k x.1, F113_r⟩
theorem F113_q (k : Nat) : ∀ xs cr, F113_p k xs = some cr → Contract Try.prog 113 xs cr := cle_ok fun x => F113_con k _
theorem F113_f : FnOk Try.prog 113 := .of (by kernel_rfl)
/-! 87: loop.example/netstack/impl.clone[loop.example/netstack/impl.Range] -/
def F87_t (k : Nat) : Tab := entT 113 (F113_p k) <| noTab
abbrev F87_E (k : Nat) : Env := env (F87_t k) noHint .own [] k
abbrev F87_a (a0 : List (den rng)) : List Arg := [.one (.l (.s .ro rng a0))]
def F87_r (r : List (den rng)) : A × List (List Leaf) := (.one (.s .own rng r), [])
def F87_T {β : Type} (k : Nat) (a0 : List (den rng)) (RET : List (den rng) → Option β) : Option β := cond (((a0.length : Nat) : Int) == 0) (RET []) (cond (decide ((([] : List (den rng)).length + a0.length) * 16 ≤ 140737488355328)) ((F113 k ([] ++ a0)).bind fun b1 => RET b1) none)
def F87 (k : Nat) (a0 : List (den rng)) : Option (List (den rng)) := F87_T k a0 some
theorem F87_st {β : Type} (k : Nat) (a0 : List (den rng)) (K : A × List (List Leaf) → Option β) : evalF (F87_E k) Try.f87 (F87_a a0) K =
    F87_T k a0 (fun r => K (F87_r r)) := by kernel_rfl
theorem F87_ev {β : Type} (k : Nat) (a0 : List (den rng)) (K : A × List (List Leaf) → Option β) : evalF (F87_E k) Try.f87 (F87_a a0) K = (F87 k a0).bind fun r => K (F87_r r) := by
  rw [F87_st, F87]
  simp only [F87_T, bind_cond, Option.bind_assoc, Option.bind_some, Option.bind_none, Option.bind_fun_some]
theorem F87_tOk (k : Nat) : TabFn Try.prog (F87_t k) := .ent (F113_q k) F113_f (.none)
theorem F87_con (k : Nat) (a0 : List (den rng)) : Contract Try.prog 87 (F87_a a0) ⟨F87 k a0, F87_r⟩ := con_of (envOk (F87_tOk k) _ _ _ _) mixed Try.func87 rfl rfl (F87_ev k a0 some)
def F87_sh : List AK := [.one (.l (.sl .ro rng))]
def F87_p (k : Nat) : List Arg → Option CR := cle F87_sh fun x => ⟨F87 k x.1, F87_r⟩
theorem F87_q (k : Nat) : ∀ xs cr, F87_p k xs = some cr → Contract Try.prog 87 xs cr := cle_ok fun x => F87_con k _
theorem F87_f : FnOk Try.prog 87 := .of (by kernel_rfl)
/-! 114: slices.Clip[[]byte,byte] -/
abbrev F114_E (k : Nat) : Env := env noTab noHint .own [] k
abbrev F114_a (a0 : List (den (.int .u8))) : List Arg := [.one (.l (.s .own (.int .u8) a0))]
def F114_r (r : List (den (.int .u8))) : A × List (List Leaf) := (.one (.s .own (.int .u8) r), [])
def F114_T {β : Type} (k : Nat) (a0 : List (den (.int .u8))) (RET : List (den (.int .u8)) → Option β) : Option β := cond (decide (0 ≤ ((a0.length : Nat) : Int)) && decide (((a0.length : Nat) : Int) ≤ ((a0.length : Nat) : Int))) (cond (decide (((a0.length : Nat) : Int) = ((a0.length : Nat) : Int))) (RET ((a0.take (((a0.length : Nat) : Int).toNat)).drop 0)) none) none
def F114 (k : Nat) (a0 : List (den (.int .u8))) : Option (List (den (.int .u8))) := F114_T k a0 some
theorem F114_st {β : Type} (k : Nat) (a0 : List (den (.int .u8))) (K : A × List (List Leaf) → Option β) : evalF (F114_E k) Try.f114 (F114_a a0) K =
    F114_T k a0 (fun r => K (F114_r r)) := by kernel_rfl
theorem F114_ev {β : Type} (k : Nat) (a0 : List (den (.int .u8))) (K : A × List (List Leaf) → Option β) : evalF (F114_E k) Try.f114 (F114_a a0) K = (F114 k a0).bind fun r => K (F114_r r) := by
  rw [F114_st, F114]
  simp only [F114_T, bind_cond, Option.bind_assoc, Option.bind_some, Option.bind_none, Option.bind_fun_some]
theorem F114_con (k : Nat) (a0 : List (den (.int .u8))) : Contract Try.prog 114 (F114_a a0) ⟨F114 k a0, F114_r⟩ := con_of (envOk .none _ _ _ _) mixed Try.func114 rfl rfl (F114_ev k a0 some)
def F114_sh : List AK := [.one (.l (.sl .own (.int .u8)))]
def F114_p (k : Nat) : List Arg → Option CR := cle F114_sh fun x => ⟨F114 k x.1, F114_r⟩
theorem F114_q (k : Nat) : ∀ xs cr, F114_p k xs = some cr → Contract Try.prog 114 xs cr := cle_ok fun x => F114_con k _
theorem F114_f : FnOk Try.prog 114 := .of (by kernel_rfl)
/-! 88: loop.example/netstack/impl.clone[byte] -/
def F88_t (k : Nat) : Tab := entT 114 (F114_p k) <| noTab
abbrev F88_E (k : Nat) : Env := env (F88_t k) noHint .own [] k
abbrev F88_a (a0 : List (den (.int .u8))) : List Arg := [.one (.l (.s .ro (.int .u8) a0))]
def F88_r (r : List (den (.int .u8))) : A × List (List Leaf) := (.one (.s .own (.int .u8) r), [])
def F88_T {β : Type} (k : Nat) (a0 : List (den (.int .u8))) (RET : List (den (.int .u8)) → Option β) : Option β := cond (((a0.length : Nat) : Int) == 0) (RET []) (cond (decide ((([] : List (den (.int .u8))).length + a0.length) * 1 ≤ 140737488355328)) ((F114 k ([] ++ a0)).bind fun b1 => RET b1) none)
def F88 (k : Nat) (a0 : List (den (.int .u8))) : Option (List (den (.int .u8))) := F88_T k a0 some
theorem F88_st {β : Type} (k : Nat) (a0 : List (den (.int .u8))) (K : A × List (List Leaf) → Option β) : evalF (F88_E k) Try.f88 (F88_a a0) K =
    F88_T k a0 (fun r => K (F88_r r)) := by kernel_rfl
theorem F88_ev {β : Type} (k : Nat) (a0 : List (den (.int .u8))) (K : A × List (List Leaf) → Option β) : evalF (F88_E k) Try.f88 (F88_a a0) K = (F88 k a0).bind fun r => K (F88_r r) := by
  rw [F88_st, F88]
  simp only [F88_T, bind_cond, Option.bind_assoc, Option.bind_some, Option.bind_none, Option.bind_fun_some]
theorem F88_tOk (k : Nat) : TabFn Try.prog (F88_t k) := .ent (F114_q k) F114_f (.none)
theorem F88_con (k : Nat) (a0 : List (den (.int .u8))) : Contract Try.prog 88 (F88_a a0) ⟨F88 k a0, F88_r⟩ := con_of (envOk (F88_tOk k) _ _ _ _) mixed Try.func88 rfl rfl (F88_ev k a0 some)
def F88_sh : List AK := [.one (.l (.sl .ro (.int .u8)))]
def F88_p (k : Nat) : List Arg → Option CR := cle F88_sh fun x => ⟨F88 k x.1, F88_r⟩
theorem F88_q (k : Nat) : ∀ xs cr, F88_p k xs = some cr → Contract Try.prog 88 xs cr := cle_ok fun x => F88_con k _
theorem F88_f : FnOk Try.prog 88 := .of (by kernel_rfl)
/-! 46: (loop.example/netstack/impl.Segment).copy -/
def F46_t (k : Nat) : Tab := entT 87 (F87_p k) <| entT 88 (F88_p k) <| noTab
abbrev F46_E (k : Nat) : Env := env (F46_t k) noHint .own [] k
abbrev F46_a (a0_0 a0_1 a0_2 a0_3 a0_4 : Int) (a0_5 a0_6 a0_7 a0_8 : Bool) (a0_9 : List (den rng)) (a0_10 : List (den (.int .u8))) : List Arg := [.agg [.l (.v (.int .i64 a0_0)), .l (.v (.int .i64 a0_1)), .l (.v (.int .i64 a0_2)), .l (.v (.int .i64 a0_3)), .l (.v (.int .i64 a0_4)), .l (.v (.bool a0_5)), .l (.v (.bool a0_6)), .l (.v (.bool a0_7)), .l (.v (.bool a0_8)), .l (.s .ro rng a0_9), .l (.s .ro (.int .u8) a0_10)]]
def F46_r (r : Int × Int × Int × Int × Int × Bool × Bool × Bool × Bool × List (den rng) × List (den (.int .u8))) : A × List (List Leaf) := (.agg [.v (.int .i64 r.1), .v (.int .i64 r.2.1), .v (.int .i64 r.2.2.1), .v (.int .i64 r.2.2.2.1), .v (.int .i64 r.2.2.2.2.1), .v (.bool r.2.2.2.2.2.1), .v (.bool r.2.2.2.2.2.2.1), .v (.bool r.2.2.2.2.2.2.2.1), .v (.bool r.2.2.2.2.2.2.2.2.1), .s .own rng r.2.2.2.2.2.2.2.2.2.1, .s .own (.int .u8) r.2.2.2.2.2.2.2.2.2.2], [])
def F46_T {β : Type} (k : Nat) (a0_0 a0_1 a0_2 a0_3 a0_4 : Int) (a0_5 a0_6 a0_7 a0_8 : Bool) (a0_9 : List (den rng)) (a0_10 : List (den (.int .u8))) (RET : (Int × Int × Int × Int × Int × Bool × Bool × Bool × Bool × List (den rng) × List (den (.int .u8))) → Option β) : Option β := (F87 k a0_9).bind fun b1 => (F88 k a0_10).bind fun b2 => RET (a0_0, a0_1, a0_2, a0_3, a0_4, a0_5, a0_6, a0_7, a0_8, b1, b2)
def F46 (k : Nat) (a0_0 a0_1 a0_2 a0_3 a0_4 : Int) (a0_5 a0_6 a0_7 a0_8 : Bool) (a0_9 : List (den rng)) (a0_10 : List (den (.int .u8))) : Option (Int × Int × Int × Int × Int × Bool × Bool × Bool × Bool × List (den rng) × List (den (.int .u8))) := F46_T k a0_0 a0_1 a0_2 a0_3 a0_4 a0_5 a0_6 a0_7 a0_8 a0_9 a0_10 some
theorem F46_st {β : Type} (k : Nat) (a0_0 a0_1 a0_2 a0_3 a0_4 : Int) (a0_5 a0_6 a0_7 a0_8 : Bool) (a0_9 : List (den rng)) (a0_10 : List (den (.int .u8))) (K : A × List (List Leaf) → Option β) : evalF (F46_E k) Try.f46 (F46_a a0_0 a0_1 a0_2 a0_3 a0_4 a0_5 a0_6 a0_7 a0_8 a0_9 a0_10) K =
    F46_T k a0_0 a0_1 a0_2 a0_3 a0_4 a0_5 a0_6 a0_7 a0_8 a0_9 a0_10 (fun r => K (F46_r r)) := by kernel_rfl
theorem F46_ev {β : Type} (k : Nat) (a0_0 a0_1 a0_2 a0_3 a0_4 : Int) (a0_5 a0_6 a0_7 a0_8 : Bool) (a0_9 : List (den rng)) (a0_10 : List (den (.int .u8))) (K : A × List (List Leaf) → Option β) : evalF (F46_E k) Try.f46 (F46_a a0_0 a0_1 a0_2 a0_3 a0_4 a0_5 a0_6 a0_7 a0_8 a0_9 a0_10) K = (F46 k a0_0 a0_1 a0_2 a0_3 a0_4 a0_5 a0_6 a0_7 a0_8 a0_9 a0_10).bind fun r => K (F46_r r) := by
  rw [F46_st, F46]
  simp only [F46_T, bind_cond, Option.bind_assoc, Option.bind_some, Option.bind_none, Option.bind_fun_some]
theorem F46_tOk (k : Nat) : TabFn Try.prog (F46_t k) := .ent (F87_q k) F87_f (.ent (F88_q k) F88_f (.none))
theorem F46_con (k : Nat) (a0_0 a0_1 a0_2 a0_3 a0_4 : Int) (a0_5 a0_6 a0_7 a0_8 : Bool) (a0_9 : List (den rng)) (a0_10 : List (den (.int .u8))) : Contract Try.prog 46 (F46_a a0_0 a0_1 a0_2 a0_3 a0_4 a0_5 a0_6 a0_7 a0_8 a0_9 a0_10) ⟨F46 k a0_0 a0_1 a0_2 a0_3 a0_4 a0_5 a0_6 a0_7 a0_8 a0_9 a0_10, F46_r⟩ := con_of (envOk (F46_tOk k) _ _ _ _) mixed Try.func46 rfl rfl (F46_ev k a0_0 a0_1 a0_2 a0_3 a0_4 a0_5 a0_6 a0_7 a0_8 a0_9 a0_10 some)
def F46_sh : List AK := [.agg [.l (.int .i64), .l (.int .i64), .l (.int .i64), .l (.int .i64), .l (.int .i64), .l (.bool), .l (.bool), .l (.bool), .l (.bool), .l (.sl .ro rng), .l (.sl .ro (.int .u8))]]
def F46_p (k : Nat) : List Arg → Option CR := cle F46_sh fun x => ⟨F46 k x.1.1 x.1.2.1 x.1.2.2.1 x.1.2.2.2.1 x.1.2.2.2.2.1 x.1.2.2.2.2.2.1 x.1.2.2.2.2.2.2.1 x.1.2.2.2.2.2.2.2.1 x.1.2.2.2.2.2.2.2.2.1 x.1.2.2.2.2.2.2.2.2.2.1 x.1.2.2.2.2.2.2.2.2.2.2.1, F46_r⟩
theorem F46_q (k : Nat) : ∀ xs cr, F46_p k xs = some cr → Contract Try.prog 46 xs cr := cle_ok fun x => F46_con k _ _ _ _ _ _ _ _ _ _ _
theorem F46_f : FnOk Try.prog 46 := .of (by kernel_rfl)
/-! 92: slices.Grow[[]byte,byte] -/
abbrev F92_E (k : Nat) : Env := env noTab noHint .own [] k
abbrev F92_a (a1 : Int) : List Arg := [.one (.l (.v (.slice none 0 0))), .one (.l (.v (.int .i64 a1)))]
def F92_r (r : List (den (.int .u8))) : A × List (List Leaf) := (.one (.s .own (.int .u8) r), [])
def F92_T {β : Type} (k : Nat) (a1 : Int) (RET : List (den (.int .u8)) → Option β) : Option β := cond (decide (a1 < 0)) none (cond (decide ((IntKind.i64.wrap (a1 - 0)) > 0)) (cond (decide (0 ≤ 0) && decide (0 ≤ ((0 : Nat) : Int))) (cond (decide (0 < (IntKind.i64.wrap (a1 - 0))) && decide ((IntKind.i64.wrap (a1 - 0)) * (1 : Nat) ≤ 140737488355328)) (cond (decide (0 ≤ 0) && decide (0 ≤ (((List.replicate ((IntKind.i64.wrap (a1 - 0)).toNat) (dflt (.int .u8))).length : Nat) : Int))) (RET (((List.replicate ((IntKind.i64.wrap (a1 - 0)).toNat) (dflt (.int .u8))).take 0).drop 0)) none) none) none) (RET []))
def F92 (k : Nat) (a1 : Int) : Option (List (den (.int .u8))) := F92_T k a1 some
theorem F92_st {β : Type} (k : Nat) (a1 : Int) (K : A × List (List Leaf) → Option β) : evalF (F92_E k) Try.f92 (F92_a a1) K =
    F92_T k a1 (fun r => K (F92_r r)) := by kernel_rfl
theorem F92_ev {β : Type} (k : Nat) (a1 : Int) (K : A × List (List Leaf) → Option β) : evalF (F92_E k) Try.f92 (F92_a a1) K = (F92 k a1).bind fun r => K (F92_r r) := by
  rw [F92_st, F92]
  simp only [F92_T, bind_cond, Option.bind_assoc, Option.bind_some, Option.bind_none, Option.bind_fun_some]
theorem F92_con (k : Nat) (a1 : Int) : Contract Try.prog 92 (F92_a a1) ⟨F92 k a1, F92_r⟩ := con_of (envOk .none _ _ _ _) mixed Try.func92 rfl rfl (F92_ev k a1 some)
def F92_sh : List AK := [.one (.l (.nil)), .one (.l (.int .i64))]
def F92_p (k : Nat) : List Arg → Option CR := cle F92_sh fun x => ⟨F92 k x.2.1, F92_r⟩
theorem F92_q (k : Nat) : ∀ xs cr, F92_p k xs = some cr → Contract Try.prog 92 xs cr := cle_ok fun x => F92_con k _
theorem F92_f : FnOk Try.prog 92 := .of (by kernel_rfl)
/-! 62: slices.Concat[[]byte,byte] -/
def F62_h : Nat → Hint
  | 0 => ⟨[(0, .plain), (3, .plain), (9, .plain), (10, .plain), (11, .plain)], []⟩
  | 2 => ⟨[(6, .own .own (.int .u8) []), (25, .plain), (26, .plain), (27, .plain)], []⟩
  | _ => ⟨[], []⟩
def F62_t (k : Nat) : Tab := entT 92 (F92_p k) <| noTab
abbrev F62_E (k : Nat) : Env := env (F62_t k) F62_h .own [] k
abbrev F62_a (a0 : List (den (.sl (.int .u8)))) : List Arg := [.one (.l (.s .ro (.sl (.int .u8)) a0))]
def F62_r (r : List (den (.int .u8))) : A × List (List Leaf) := (.one (.s .own (.int .u8) r), [])
def F62_s2 (a0 : List (den (.sl (.int .u8)))) (x27_2 : Int) (m6900_2 : List (den (.int .u8))) : St := ⟨dz 6 ((.one (.a (.cell 6900) 0 0 none)) :: dz 18 ((.one (.s .ro (.sl (.int .u8)) a0)) :: (.one (.v (.int .i64 ((a0.length : Nat) : Int)))) :: (.one (.v (.int .i64 x27_2))) :: dz 8 [])), [(6900, ⟨.s .own (.int .u8) m6900_2, 0, 0⟩)]⟩
def F62_l2_T {β : Type} (k : Nat) (a0 : List (den (.sl (.int .u8)))) (NX : Int → List (den (.int .u8)) → Option β) (RET : List (den (.int .u8)) → Option β) (x27_2 : Int) (m6900_2 : List (den (.int .u8))) : Option β := cond (decide (x27_2 < ((a0.length : Nat) : Int))) (cond (decide (0 ≤ x27_2)) (cond (decide (x27_2 < ((a0.length : Nat) : Int))) (cond (decide ((m6900_2.length + (atI a0 x27_2).length) * 1 ≤ 140737488355328)) (NX (IntKind.i64.wrap (x27_2 + 1)) (m6900_2 ++ (atI a0 x27_2))) none) none) none) (RET m6900_2)
def F62_l2 (k : Nat) (a0 : List (den (.sl (.int .u8)))) : Nat → Int → List (den (.int .u8)) → Option (List (den (.int .u8)))
  | 0, _, _ => none
  | n + 1, x27_2, m6900_2 => F62_l2_T k a0 (fun x27_2 m6900_2 => F62_l2 k a0 n x27_2 m6900_2) some x27_2 m6900_2
theorem F62_l2_rd {β : Type} (k n : Nat) (a0 : List (den (.sl (.int .u8)))) (x27_2 : Int) (m6900_2 : List (den (.int .u8))) (K : A × List (List Leaf) → Option β) :
    loopG (F62_E k) Try.f62 [1, 1, 1, 1, 0, 1, 0] 2 (kontAt (F62_E k) [1, 1, 1, 1, 0, 1, 0] (bodyOf Try.f62) 0 (endC (F62_E k) Try.f62 (F62_a a0) K)) (n + 1) (F62_s2 a0 x27_2 m6900_2) =
    F62_l2_T k a0 (fun x27_2 m6900_2 => loopG (F62_E k) Try.f62 [1, 1, 1, 1, 0, 1, 0] 2 (kontAt (F62_E k) [1, 1, 1, 1, 0, 1, 0] (bodyOf Try.f62) 0 (endC (F62_E k) Try.f62 (F62_a a0) K)) n (F62_s2 a0 x27_2 m6900_2)) (fun r => K (F62_r r)) x27_2 m6900_2 := by kernel_rfl
theorem F62_l2_lp {β : Type} (k : Nat) (a0 : List (den (.sl (.int .u8)))) (K : A × List (List Leaf) → Option β) (n : Nat) : ∀ (x27_2 : Int) (m6900_2 : List (den (.int .u8))), loopG (F62_E k) Try.f62 [1, 1, 1, 1, 0, 1, 0] 2 (kontAt (F62_E k) [1, 1, 1, 1, 0, 1, 0] (bodyOf Try.f62) 0 (endC (F62_E k) Try.f62 (F62_a a0) K)) n (F62_s2 a0 x27_2 m6900_2) =
    (F62_l2 k a0 n x27_2 m6900_2).bind fun r => K (F62_r r) := by
  induction n with
  | zero => intros; rfl
  | succ n ih =>
    intros
    rw [F62_l2_rd, F62_l2]
    simp only [F62_l2_T, bind_cond, Option.bind_assoc, Option.bind_some, Option.bind_none, Option.bind_fun_some, ih]
def F62_s0 (a0 : List (den (.sl (.int .u8)))) (x3_0 x11_0 : Int) : St := ⟨(.one (.s .ro (.sl (.int .u8)) a0)) :: (.one .d) :: (.one .d) :: (.one (.v (.int .i64 x3_0))) :: dz 5 ((.one (.s .ro (.sl (.int .u8)) a0)) :: (.one (.v (.int .i64 ((a0.length : Nat) : Int)))) :: (.one (.v (.int .i64 x11_0))) :: dz 24 []), []⟩
def F62_l0_T {β : Type} (k : Nat) (a0 : List (den (.sl (.int .u8)))) (NX : Int → Int → Option β) (LP2 : Int → List (den (.int .u8)) → Option β) (x3_0 x11_0 : Int) : Option β := cond (decide (x11_0 < ((a0.length : Nat) : Int))) (cond (decide (0 ≤ x11_0)) (cond (decide (x11_0 < ((a0.length : Nat) : Int))) (cond (decide ((IntKind.i64.wrap (x3_0 + (((atI a0 x11_0).length : Nat) : Int))) < 0)) none (NX (IntKind.i64.wrap (x3_0 + (((atI a0 x11_0).length : Nat) : Int))) (IntKind.i64.wrap (x11_0 + 1)))) none) none) ((F92 k x3_0).bind fun b1 => LP2 0 b1)
def F62_l0 (k : Nat) (a0 : List (den (.sl (.int .u8)))) : Nat → Int → Int → Option (List (den (.int .u8)))
  | 0, _, _ => none
  | n + 1, x3_0, x11_0 => F62_l0_T k a0 (fun x3_0 x11_0 => F62_l0 k a0 n x3_0 x11_0) (fun x27_2 m6900_2 => F62_l2 k a0 k x27_2 m6900_2) x3_0 x11_0
theorem F62_l0_rd {β : Type} (k n : Nat) (a0 : List (den (.sl (.int .u8)))) (x3_0 x11_0 : Int) (K : A × List (List Leaf) → Option β) :
    loopG (F62_E k) Try.f62 [1, 1, 0, 1, 0] 0 (kontAt (F62_E k) [1, 1, 0, 1, 0] (bodyOf Try.f62) 0 (endC (F62_E k) Try.f62 (F62_a a0) K)) (n + 1) (F62_s0 a0 x3_0 x11_0) =
    F62_l0_T k a0 (fun x3_0 x11_0 => loopG (F62_E k) Try.f62 [1, 1, 0, 1, 0] 0 (kontAt (F62_E k) [1, 1, 0, 1, 0] (bodyOf Try.f62) 0 (endC (F62_E k) Try.f62 (F62_a a0) K)) n (F62_s0 a0 x3_0 x11_0)) (fun x27_2 m6900_2 => loopG (F62_E k) Try.f62 [1, 1, 1, 1, 0, 1, 0] 2 (kontAt (F62_E k) [1, 1, 1, 1, 0, 1, 0] (bodyOf Try.f62) 0 (endC (F62_E k) Try.f62 (F62_a a0) K)) k (F62_s2 a0 x27_2 m6900_2)) x3_0 x11_0 := by kernel_rfl
theorem F62_l0_lp {β : Type} (k : Nat) (a0 : List (den (.sl (.int .u8)))) (K : A × List (List Leaf) → Option β) (n : Nat) : ∀ (x3_0 x11_0 : Int), loopG (F62_E k) Try.f62 [1, 1, 0, 1, 0] 0 (kontAt (F62_E k) [1, 1, 0, 1, 0] (bodyOf Try.f62) 0 (endC (F62_E k) Try.f62 (F62_a a0) K)) n (F62_s0 a0 x3_0 x11_0) =
    (F62_l0 k a0 n x3_0 x11_0).bind fun r => K (F62_r r) := by
  induction n with
  | zero => intros; rfl
  | succ n ih =>
    intros
    rw [F62_l0_rd, F62_l0]
    simp only [F62_l0_T, bind_cond, Option.bind_assoc, Option.bind_some, Option.bind_none, Option.bind_fun_some, F62_l2_lp, ih]
def F62_T {β : Type} (k : Nat) (a0 : List (den (.sl (.int .u8)))) (LP0 : Int → Int → Option β) : Option β := LP0 0 0
def F62 (k : Nat) (a0 : List (den (.sl (.int .u8)))) : Option (List (den (.int .u8))) := F62_T k a0 (fun x3_0 x11_0 => F62_l0 k a0 k x3_0 x11_0)
theorem F62_st {β : Type} (k : Nat) (a0 : List (den (.sl (.int .u8)))) (K : A × List (List Leaf) → Option β) : evalF (F62_E k) Try.f62 (F62_a a0) K =
    F62_T k a0 (fun x3_0 x11_0 => loopG (F62_E k) Try.f62 [1, 1, 0, 1, 0] 0 (kontAt (F62_E k) [1, 1, 0, 1, 0] (bodyOf Try.f62) 0 (endC (F62_E k) Try.f62 (F62_a a0) K)) k (F62_s0 a0 x3_0 x11_0)) := by kernel_rfl
theorem F62_ev {β : Type} (k : Nat) (a0 : List (den (.sl (.int .u8)))) (K : A × List (List Leaf) → Option β) : evalF (F62_E k) Try.f62 (F62_a a0) K = (F62 k a0).bind fun r => K (F62_r r) := by
  rw [F62_st, F62]
  simp only [F62_T, bind_cond, Option.bind_assoc, Option.bind_some, Option.bind_none, Option.bind_fun_some, F62_l0_lp]
theorem F62_tOk (k : Nat) : TabFn Try.prog (F62_t k) := .ent (F92_q k) F92_f (.none)
theorem F62_con (k : Nat) (a0 : List (den (.sl (.int .u8)))) : Contract Try.prog 62 (F62_a a0) ⟨F62 k a0, F62_r⟩ := con_of (envOk (F62_tOk k) _ _ _ _) mixed Try.func62 rfl rfl (F62_ev k a0 some)
def F62_sh : List AK := [.one (.l (.sl .ro (.sl (.int .u8))))]
def F62_p (k : Nat) : List Arg → Option CR := cle F62_sh fun x => ⟨F62 k x.1, F62_r⟩
theorem F62_q (k : Nat) : ∀ xs cr, F62_p k xs = some cr → Contract Try.prog 62 xs cr := cle_ok fun x => F62_con k _
theorem F62_f : FnOk Try.prog 62 := .of (by kernel_rfl)
/-! 20: loop.example/netstack/impl.SegmentJoin -/
def F20_t (k : Nat) : Tab := entT 14 (F14_p k) <| entT 61 (F61_p k) <| entT 16 (F16_p k) <| entT 48 (F48_p k) <| entT 46 (F46_p k) <| entT 62 (F62_p k) <| noTab
abbrev F20_E (k : Nat) : Env := env (F20_t k) noHint .own [] k
abbrev F20_a (a0_0 a0_1 a0_2 a0_3 a0_4 : Int) (a0_5 a0_6 a0_7 a0_8 : Bool) (a0_9 : List (den rng)) (a0_10 : List (den (.int .u8))) (a1_0 a1_1 a1_2 a1_3 a1_4 : Int) (a1_5 a1_6 a1_7 a1_8 : Bool) (a1_9 : List (den rng)) (a1_10 : List (den (.int .u8))) : List Arg := [.agg [.l (.v (.int .i64 a0_0)), .l (.v (.int .i64 a0_1)), .l (.v (.int .i64 a0_2)), .l (.v (.int .i64 a0_3)), .l (.v (.int .i64 a0_4)), .l (.v (.bool a0_5)), .l (.v (.bool a0_6)), .l (.v (.bool a0_7)), .l (.v (.bool a0_8)), .l (.s .ro rng a0_9), .l (.s .ro (.int .u8) a0_10)], .agg [.l (.v (.int .i64 a1_0)), .l (.v (.int .i64 a1_1)), .l (.v (.int .i64 a1_2)), .l (.v (.int .i64 a1_3)), .l (.v (.int .i64 a1_4)), .l (.v (.bool a1_5)), .l (.v (.bool a1_6)), .l (.v (.bool a1_7)), .l (.v (.bool a1_8)), .l (.s .ro rng a1_9), .l (.s .ro (.int .u8) a1_10)]]
def F20_r (r : Int × Int × Int × Int × Int × Bool × Bool × Bool × Bool × List (den rng) × List (den (.int .u8)) × Bool) : A × List (List Leaf) := (.tup [(true, [.v (.int .i64 r.1), .v (.int .i64 r.2.1), .v (.int .i64 r.2.2.1), .v (.int .i64 r.2.2.2.1), .v (.int .i64 r.2.2.2.2.1), .v (.bool r.2.2.2.2.2.1), .v (.bool r.2.2.2.2.2.2.1), .v (.bool r.2.2.2.2.2.2.2.1), .v (.bool r.2.2.2.2.2.2.2.2.1), .s .own rng r.2.2.2.2.2.2.2.2.2.1, .s .own (.int .u8) r.2.2.2.2.2.2.2.2.2.2.1]), (false, [.v (.bool r.2.2.2.2.2.2.2.2.2.2.2)])], [])
def F20_T {β : Type} (k : Nat) (a0_0 a0_1 a0_2 a0_3 a0_4 : Int) (a0_5 a0_6 a0_7 a0_8 : Bool) (a0_9 : List (den rng)) (a0_10 : List (den (.int .u8))) (a1_0 a1_1 a1_2 a1_3 a1_4 : Int) (a1_5 a1_6 a1_7 a1_8 : Bool) (a1_9 : List (den rng)) (a1_10 : List (den (.int .u8))) (RET : (Int × Int × Int × Int × Int × Bool × Bool × Bool × Bool × List (den rng) × List (den (.int .u8)) × Bool) → Option β) : Option β := (F14 k a0_0 a0_1 a0_2 a0_3 a0_4 a0_5 a0_6 a0_7 a0_8 a0_9 a0_10).bind fun b1 => cond (!b1) (RET (0, 0, 0, 0, 0, false, false, false, false, [], [], false)) ((F14 k a1_0 a1_1 a1_2 a1_3 a1_4 a1_5 a1_6 a1_7 a1_8 a1_9 a1_10).bind fun b2 => cond (!b2) (RET (0, 0, 0, 0, 0, false, false, false, false, [], [], false)) (cond (a0_0 != a1_0) (RET (0, 0, 0, 0, 0, false, false, false, false, [], [], false)) (cond (a0_1 != a1_1) (RET (0, 0, 0, 0, 0, false, false, false, false, [], [], false)) (cond (!(a0_6 == a1_6)) (RET (0, 0, 0, 0, 0, false, false, false, false, [], [], false)) (cond (a0_3 != a1_3) (RET (0, 0, 0, 0, 0, false, false, false, false, [], [], false)) (cond (a0_4 != a1_4) (RET (0, 0, 0, 0, 0, false, false, false, false, [], [], false)) ((F61 k a0_9 a1_9).bind fun b3 => cond (!b3) (RET (0, 0, 0, 0, 0, false, false, false, false, [], [], false)) (cond a0_8 (RET (0, 0, 0, 0, 0, false, false, false, false, [], [], false)) (cond a1_8 (RET (0, 0, 0, 0, 0, false, false, false, false, [], [], false)) (cond (((a0_10.length : Nat) : Int) == 0) (RET (0, 0, 0, 0, 0, false, false, false, false, [], [], false)) (cond (((a1_10.length : Nat) : Int) == 0) (RET (0, 0, 0, 0, 0, false, false, false, false, [], [], false)) (cond a0_7 (RET (0, 0, 0, 0, 0, false, false, false, false, [], [], false)) (cond a1_5 (RET (0, 0, 0, 0, 0, false, false, false, false, [], [], false)) ((F16 k a0_0 a0_1 a0_2 a0_3 a0_4 a0_5 a0_6 a0_7 a0_8 a0_9 a0_10).bind fun b4 => (F48 k (IntKind.i64.wrap (a0_2 + b4))).bind fun b5 => cond (a1_2 != b5) (RET (0, 0, 0, 0, 0, false, false, false, false, [], [], false)) (cond (decide ((IntKind.i64.wrap (((a0_10.length : Nat) : Int) + ((a1_10.length : Nat) : Int))) > 12)) (RET (0, 0, 0, 0, 0, false, false, false, false, [], [], false)) ((F46 k a0_0 a0_1 a0_2 a0_3 a0_4 a0_5 a0_6 a0_7 a0_8 a0_9 a0_10).bind fun b6 => (F62 k [a0_10, a1_10]).bind fun b7 => (F46 k b6.1 b6.2.1 b6.2.2.1 b6.2.2.2.1 b6.2.2.2.2.1 b6.2.2.2.2.2.1 b6.2.2.2.2.2.2.1 a1_7 b6.2.2.2.2.2.2.2.2.1 b6.2.2.2.2.2.2.2.2.2.1 b7).bind fun b8 => RET (b8.1, b8.2.1, b8.2.2.1, b8.2.2.2.1, b8.2.2.2.2.1, b8.2.2.2.2.2.1, b8.2.2.2.2.2.2.1, b8.2.2.2.2.2.2.2.1, b8.2.2.2.2.2.2.2.2.1, b8.2.2.2.2.2.2.2.2.2.1, b8.2.2.2.2.2.2.2.2.2.2, true)))))))))))))))))
def F20 (k : Nat) (a0_0 a0_1 a0_2 a0_3 a0_4 : Int) (a0_5 a0_6 a0_7 a0_8 : Bool) (a0_9 : List (den rng)) (a0_10 : List (den (.int .u8))) (a1_0 a1_1 a1_2 a1_3 a1_4 : Int) (a1_5 a1_6 a1_7 a1_8 : Bool) (a1_9 : List (den rng)) (a1_10 : List (den (.int .u8))) : Option (Int × Int × Int × Int × Int × Bool × Bool × Bool × Bool × List (den rng) × List (den (.int .u8)) × Bool) := F20_T k a0_0 a0_1 a0_2 a0_3 a0_4 a0_5 a0_6 a0_7 a0_8 a0_9 a0_10 a1_0 a1_1 a1_2 a1_3 a1_4 a1_5 a1_6 a1_7 a1_8 a1_9 a1_10 some
theorem F20_st {β : Type} (k : Nat) (a0_0 a0_1 a0_2 a0_3 a0_4 : Int) (a0_5 a0_6 a0_7 a0_8 : Bool) (a0_9 : List (den rng)) (a0_10 : List (den (.int .u8))) (a1_0 a1_1 a1_2 a1_3 a1_4 : Int) (a1_5 a1_6 a1_7 a1_8 : Bool) (a1_9 : List (den rng)) (a1_10 : List (den (.int .u8))) (K : A × List (List Leaf) → Option β) : evalF (F20_E k) Try.f20 (F20_a a0_0 a0_1 a0_2 a0_3 a0_4 a0_5 a0_6 a0_7 a0_8 a0_9 a0_10 a1_0 a1_1 a1_2 a1_3 a1_4 a1_5 a1_6 a1_7 a1_8 a1_9 a1_10) K =
    F20_T k a0_0 a0_1 a0_2 a0_3 a0_4 a0_5 a0_6 a0_7 a0_8 a0_9 a0_10 a1_0 a1_1 a1_2 a1_3 a1_4 a1_5 a1_6 a1_7 a1_8 a1_9 a1_10 (fun r => K (F20_r r)) := by kernel_rfl
theorem F20_ev {β : Type} (k : Nat) (a0_0 a0_1 a0_2 a0_3 a0_4 : Int) (a0_5 a0_6 a0_7 a0_8 : Bool) (a0_9 : List (den rng)) (a0_10 : List (den (.int .u8))) (a1_0 a1_1 a1_2 a1_3 a1_4 : Int) (a1_5 a1_6 a1_7 a1_8 : Bool) (a1_9 : List (den rng)) (a1_10 : List (den (.int .u8))) (K : A × List (List Leaf) → Option β) : evalF (F20_E k) Try.f20 (F20_a a0_0 a0_1 a0_2 a0_3 a0_4 a0_5 a0_6 a0_7 a0_8 a0_9 a0_10 a1_0 a1_1 a1_2 a1_3 a1_4 a1_5 a1_6 a1_7 a1_8 a1_9 a1_10) K = (F20 k a0_0 a0_1 a0_2 a0_3 a0_4 a0_5 a0_6 a0_7 a0_8 a0_9 a0_10 a1_0 a1_1 a1_2 a1_3 a1_4 a1_5 a1_6 a1_7 a1_8 a1_9 a1_10).bind fun r => K (F20_r r) := by
  rw [F20_st, F20]
  simp only [F20_T, bind_cond, Option.bind_assoc, Option.bind_some, Option.bind_none, Option.bind_fun_some]
theorem F20_tOk (k : Nat) : TabFn Try.prog (F20_t k) := .ent (F14_q k) F14_f (.ent (F61_q k) F61_f (.ent (F16_q k) F16_f (.ent (F48_q k) F48_f (.ent (F46_q k) F46_f (.ent (F62_q k) F62_f (.none))))))
theorem F20_con (k : Nat) (a0_0 a0_1 a0_2 a0_3 a0_4 : Int) (a0_5 a0_6 a0_7 a0_8 : Bool) (a0_9 : List (den rng)) (a0_10 : List (den (.int .u8))) (a1_0 a1_1 a1_2 a1_3 a1_4 : Int) (a1_5 a1_6 a1_7 a1_8 : Bool) (a1_9 : List (den rng)) (a1_10 : List (den (.int .u8))) : Contract Try.prog 20 (F20_a a0_0 a0_1 a0_2 a0_3 a0_4 a0_5 a0_6 a0_7 a0_8 a0_9 a0_10 a1_0 a1_1 a1_2 a1_3 a1_4 a1_5 a1_6 a1_7 a1_8 a1_9 a1_10) ⟨F20 k a0_0 a0_1 a0_2 a0_3 a0_4 a0_5 a0_6 a0_7 a0_8 a0_9 a0_10 a1_0 a1_1 a1_2 a1_3 a1_4 a1_5 a1_6 a1_7 a1_8 a1_9 a1_10, F20_r⟩ := con_of (envOk (F20_tOk k) _ _ _ _) mixed Try.func20 rfl rfl (F20_ev k a0_0 a0_1 a0_2 a0_3 a0_4 a0_5 a0_6 a0_7 a0_8 a0_9 a0_10 a1_0 a1_1 a1_2 a1_3 a1_4 a1_5 a1_6 a1_7 a1_8 a1_9 a1_10 some)
def F20_sh : List AK := [.agg [.l (.int .i64), .l (.int .i64), .l (.int .i64), .l (.int .i64), .l (.int .i64), .l (.bool), .l (.bool), .l (.bool), .l (.bool), .l (.sl .ro rng), .l (.sl .ro (.int .u8))], .agg [.l (.int .i64), .l (.int .i64), .l (.int .i64), .l (.int .i64), .l (.int .i64), .l (.bool), .l (.bool), .l (.bool), .l (.bool), .l (.sl .ro rng), .l (.sl .ro (.int .u8))]]
def F20_p (k : Nat) : List Arg → Option CR := cle F20_sh fun x => ⟨F20 k x.1.1 x.1.2.1 x.1.2.2.1 x.1.2.2.2.1 x.1.2.2.2.2.1 x.1.2.2.2.2.2.1 x.1.2.2.2.2.2.2.1 x.1.2.2.2.2.2.2.2.1 x.1.2.2.2.2.2.2.2.2.1 x.1.2.2.2.2.2.2.2.2.2.1 x.1.2.2.2.2.2.2.2.2.2.2.1 x.2.1.1 x.2.1.2.1 x.2.1.2.2.1 x.2.1.2.2.2.1 x.2.1.2.2.2.2.1 x.2.1.2.2.2.2.2.1 x.2.1.2.2.2.2.2.2.1 x.2.1.2.2.2.2.2.2.2.1 x.2.1.2.2.2.2.2.2.2.2.1 x.2.1.2.2.2.2.2.2.2.2.2.1 x.2.1.2.2.2.2.2.2.2.2.2.2.1, F20_r⟩
theorem F20_q (k : Nat) : ∀ xs cr, F20_p k xs = some cr → Contract Try.prog 20 xs cr := cle_ok fun x => F20_con k _ _ _ _ _ _ _ _ _ _ _ _ _ _ _ _ _ _ _ _ _ _
theorem F20_f : FnOk Try.prog 20 := .of (by kernel_rfl)
/-! 63: loop.example/netstack/spec.l21Same -/
def F63_h : Nat → Hint
  | 0 => ⟨[(2, .plain), (3, .plain), (5, .plain)], [(2000, .plain), (2001, .plain), (2002, .plain), (2003, .plain), (2004, .plain), (2005, .plain), (2006, .plain), (2007, .plain), (2008, .plain), (2009, .plain), (2010, .plain), (3000, .plain), (3001, .plain), (3002, .plain), (3003, .plain), (3004, .plain), (3005, .plain), (3006, .plain), (3007, .plain), (3008, .plain), (3009, .plain), (3010, .plain)]⟩
  | _ => ⟨[], []⟩
abbrev F63_E (k : Nat) : Env := env noTab F63_h .own [] k
abbrev F63_a (a0_0 a0_1 a0_2 a0_3 a0_4 : Int) (a0_5 a0_6 a0_7 a0_8 : Bool) (a0_9 : List (den rng)) (a0_10 : List (den (.int .u8))) (a1_0 a1_1 a1_2 a1_3 a1_4 : Int) (a1_5 a1_6 a1_7 a1_8 : Bool) (a1_9 : List (den rng)) (a1_10 : List (den (.int .u8))) : List Arg := [.agg [.l (.v (.int .i64 a0_0)), .l (.v (.int .i64 a0_1)), .l (.v (.int .i64 a0_2)), .l (.v (.int .i64 a0_3)), .l (.v (.int .i64 a0_4)), .l (.v (.bool a0_5)), .l (.v (.bool a0_6)), .l (.v (.bool a0_7)), .l (.v (.bool a0_8)), .l (.s .ro rng a0_9), .l (.s .ro (.int .u8) a0_10)], .agg [.l (.v (.int .i64 a1_0)), .l (.v (.int .i64 a1_1)), .l (.v (.int .i64 a1_2)), .l (.v (.int .i64 a1_3)), .l (.v (.int .i64 a1_4)), .l (.v (.bool a1_5)), .l (.v (.bool a1_6)), .l (.v (.bool a1_7)), .l (.v (.bool a1_8)), .l (.s .ro rng a1_9), .l (.s .ro (.int .u8) a1_10)]]
def F63_r (r : Bool) : A × List (List Leaf) := (.one (.v (.bool r)), [])
def F63_s0 (a0_0 a0_1 a0_2 a0_3 a0_4 : Int) (a0_5 a0_6 a0_7 a0_8 : Bool) (a0_9 : List (den rng)) (a0_10 : List (den (.int .u8))) (a1_0 a1_1 a1_2 a1_3 a1_4 : Int) (a1_5 a1_6 a1_7 a1_8 : Bool) (a1_9 : List (den rng)) (a1_10 : List (den (.int .u8))) (x5_0 : Int) : St := ⟨(.one .d) :: (.one .d) :: (.one (.ptr (.cell 2000) 11 0)) :: (.one (.ptr (.cell 3000) 11 0)) :: (.one .d) :: (.one (.v (.int .i64 x5_0))) :: dz 60 [], [(2000, ⟨.v (.int .i64 a0_0), 0, 0⟩), (2001, ⟨.v (.int .i64 a0_1), 0, 0⟩), (2002, ⟨.v (.int .i64 a0_2), 0, 0⟩), (2003, ⟨.v (.int .i64 a0_3), 0, 0⟩), (2004, ⟨.v (.int .i64 a0_4), 0, 0⟩), (2005, ⟨.v (.bool a0_5), 0, 0⟩), (2006, ⟨.v (.bool a0_6), 0, 0⟩), (2007, ⟨.v (.bool a0_7), 0, 0⟩), (2008, ⟨.v (.bool a0_8), 0, 0⟩), (2009, ⟨.s .ro rng a0_9, 0, 0⟩), (2010, ⟨.s .ro (.int .u8) a0_10, 0, 0⟩), (3000, ⟨.v (.int .i64 a1_0), 0, 0⟩), (3001, ⟨.v (.int .i64 a1_1), 0, 0⟩), (3002, ⟨.v (.int .i64 a1_2), 0, 0⟩), (3003, ⟨.v (.int .i64 a1_3), 0, 0⟩), (3004, ⟨.v (.int .i64 a1_4), 0, 0⟩), (3005, ⟨.v (.bool a1_5), 0, 0⟩), (3006, ⟨.v (.bool a1_6), 0, 0⟩), (3007, ⟨.v (.bool a1_7), 0, 0⟩), (3008, ⟨.v (.bool a1_8), 0, 0⟩), (3009, ⟨.s .ro rng a1_9, 0, 0⟩), (3010, ⟨.s .ro (.int .u8) a1_10, 0, 0⟩)]⟩
def F63_l0_T {β : Type} (k : Nat) (a0_0 a0_1 a0_2 a0_3 a0_4 : Int) (a0_5 a0_6 a0_7 a0_8 : Bool) (a0_9 : List (den rng)) (a0_10 : List (den (.int .u8))) (a1_0 a1_1 a1_2 a1_3 a1_4 : Int) (a1_5 a1_6 a1_7 a1_8 : Bool) (a1_9 : List (den rng)) (a1_10 : List (den (.int .u8))) (NX : Int → Option β) (RET : Bool → Option β) (x5_0 : Int) : Option β := cond (decide (x5_0 < ((a0_9.length : Nat) : Int))) (cond (decide (0 ≤ x5_0)) (cond (decide (x5_0 < ((a0_9.length : Nat) : Int))) (cond (decide (0 ≤ x5_0)) (cond (decide (x5_0 < ((a1_9.length : Nat) : Int))) (cond (!(eqD rng (atI a0_9 x5_0) (atI a1_9 x5_0))) (RET false) (NX (IntKind.i64.wrap (x5_0 + 1)))) none) none) none) none) (RET true)
def F63_l0 (k : Nat) (a0_0 a0_1 a0_2 a0_3 a0_4 : Int) (a0_5 a0_6 a0_7 a0_8 : Bool) (a0_9 : List (den rng)) (a0_10 : List (den (.int .u8))) (a1_0 a1_1 a1_2 a1_3 a1_4 : Int) (a1_5 a1_6 a1_7 a1_8 : Bool) (a1_9 : List (den rng)) (a1_10 : List (den (.int .u8))) : Nat → Int → Option (Bool)
  | 0, _ => none
  | n + 1, x5_0 => F63_l0_T k a0_0 a0_1 a0_2 a0_3 a0_4 a0_5 a0_6 a0_7 a0_8 a0_9 a0_10 a1_0 a1_1 a1_2 a1_3 a1_4 a1_5 a1_6 a1_7 a1_8 a1_9 a1_10 (fun x5_0 => F63_l0 k a0_0 a0_1 a0_2 a0_3 a0_4 a0_5 a0_6 a0_7 a0_8 a0_9 a0_10 a1_0 a1_1 a1_2 a1_3 a1_4 a1_5 a1_6 a1_7 a1_8 a1_9 a1_10 n x5_0) some x5_0
theorem F63_l0_rd {β : Type} (k n : Nat) (a0_0 a0_1 a0_2 a0_3 a0_4 : Int) (a0_5 a0_6 a0_7 a0_8 : Bool) (a0_9 : List (den rng)) (a0_10 : List (den (.int .u8))) (a1_0 a1_1 a1_2 a1_3 a1_4 : Int) (a1_5 a1_6 a1_7 a1_8 : Bool) (a1_9 : List (den rng)) (a1_10 : List (den (.int .u8))) (x5_0 : Int) (K : A × List (List Leaf) → Option β) :
    loopG (F63_E k) Try.f63 [1, 1, 0, 1, 0] 0 (kontAt (F63_E k) [1, 1, 0, 1, 0] (bodyOf Try.f63) 0 (endC (F63_E k) Try.f63 (F63_a a0_0 a0_1 a0_2 a0_3 a0_4 a0_5 a0_6 a0_7 a0_8 a0_9 a0_10 a1_0 a1_1 a1_2 a1_3 a1_4 a1_5 a1_6 a1_7 a1_8 a1_9 a1_10) K)) (n + 1) (F63_s0 a0_0 a0_1 a0_2 a0_3 a0_4 a0_5 a0_6 a0_7 a0_8 a0_9 a0_10 a1_0 a1_1 a1_2 a1_3 a1_4 a1_5 a1_6 a1_7 a1_8 a1_9 a1_10 x5_0) =
    F63_l0_T k a0_0 a0_1 a0_2 a0_3 a0_4 a0_5 a0_6 a0_7 a0_8 a0_9 a0_10 a1_0 a1_1 a1_2 a1_3 a1_4 a1_5 a1_6 a1_7 a1_8 a1_9 a1_10 (fun x5_0 => loopG (F63_E k) Try.f63 [1, 1, 0, 1, 0] 0 (kontAt (F63_E k) [1, 1, 0, 1, 0] (bodyOf Try.f63) 0 (endC (F63_E k) Try.f63 (F63_a a0_0 a0_1 a0_2 a0_3 a0_4 a0_5 a0_6 a0_7 a0_8 a0_9 a0_10 a1_0 a1_1 a1_2 a1_3 a1_4 a1_5 a1_6 a1_7 a1_8 a1_9 a1_10) K)) n (F63_s0 a0_0 a0_1 a0_2 a0_3 a0_4 a0_5 a0_6 a0_7 a0_8 a0_9 a0_10 a1_0 a1_1 a1_2 a1_3 a1_4 a1_5 a1_6 a1_7 a1_8 a1_9 a1_10 x5_0)) (fun r => K (F63_r r)) x5_0 := by kernel_rfl
theorem F63_l0_lp {β : Type} (k : Nat) (a0_0 a0_1 a0_2 a0_3 a0_4 : Int) (a0_5 a0_6 a0_7 a0_8 : Bool) (a0_9 : List (den rng)) (a0_10 : List (den (.int .u8))) (a1_0 a1_1 a1_2 a1_3 a1_4 : Int) (a1_5 a1_6 a1_7 a1_8 : Bool) (a1_9 : List (den rng)) (a1_10 : List (den (.int .u8))) (K : A × List (List Leaf) → Option β) (n : Nat) : ∀ (x5_0 : Int), loopG (F63_E k) Try.f63 [1, 1, 0, 1, 0] 0 (kontAt (F63_E k) [1, 1, 0, 1, 0] (bodyOf Try.f63) 0 (endC (F63_E k) Try.f63 (F63_a a0_0 a0_1 a0_2 a0_3 a0_4 a0_5 a0_6 a0_7 a0_8 a0_9 a0_10 a1_0 a1_1 a1_2 a1_3 a1_4 a1_5 a1_6 a1_7 a1_8 a1_9 a1_10) K)) n (F63_s0 a0_0 a0_1 a0_2 a0_3 a0_4 a0_5 a0_6 a0_7 a0_8 a0_9 a0_10 a1_0 a1_1 a1_2 a1_3 a1_4 a1_5 a1_6 a1_7 a1_8 a1_9 a1_10 x5_0) =
    (F63_l0 k a0_0 a0_1 a0_2 a0_3 a0_4 a0_5 a0_6 a0_7 a0_8 a0_9 a0_10 a1_0 a1_1 a1_2 a1_3 a1_4 a1_5 a1_6 a1_7 a1_8 a1_9 a1_10 n x5_0).bind fun r => K (F63_r r) := by
  induction n with
  | zero => intros; rfl
  | succ n ih =>
    intros
    rw [F63_l0_rd, F63_l0]
    simp only [F63_l0_T, bind_cond, Option.bind_assoc, Option.bind_some, Option.bind_none, Option.bind_fun_some, ih]
def F63_T {β : Type} (k : Nat) (a0_0 a0_1 a0_2 a0_3 a0_4 : Int) (a0_5 a0_6 a0_7 a0_8 : Bool) (a0_9 : List (den rng)) (a0_10 : List (den (.int .u8))) (a1_0 a1_1 a1_2 a1_3 a1_4 : Int) (a1_5 a1_6 a1_7 a1_8 : Bool) (a1_9 : List (den rng)) (a1_10 : List (den (.int .u8))) (LP0 : Int → Option β) (RET : Bool → Option β) : Option β := cond (a0_0 != a1_0) (RET false) (cond (a0_1 != a1_1) (RET false) (cond (!(a0_6 == a1_6)) (RET false) (cond (a0_3 != a1_3) (RET false) (cond (a0_4 != a1_4) (RET false) (cond (((a0_9.length : Nat) : Int) != ((a1_9.length : Nat) : Int)) (RET false) (LP0 0))))))
def F63 (k : Nat) (a0_0 a0_1 a0_2 a0_3 a0_4 : Int) (a0_5 a0_6 a0_7 a0_8 : Bool) (a0_9 : List (den rng)) (a0_10 : List (den (.int .u8))) (a1_0 a1_1 a1_2 a1_3 a1_4 : Int) (a1_5 a1_6 a1_7 a1_8 : Bool) (a1_9 : List (den rng)) (a1_10 : List (den (.int .u8))) : Option (Bool) := F63_T k a0_0 a0_1 a0_2 a0_3 a0_4 a0_5 a0_6 a0_7 a0_8 a0_9 a0_10 a1_0 a1_1 a1_2 a1_3 a1_4 a1_5 a1_6 a1_7 a1_8 a1_9 a1_10 (fun x5_0 => F63_l0 k a0_0 a0_1 a0_2 a0_3 a0_4 a0_5 a0_6 a0_7 a0_8 a0_9 a0_10 a1_0 a1_1 a1_2 a1_3 a1_4 a1_5 a1_6 a1_7 a1_8 a1_9 a1_10 k x5_0) some
theorem F63_st {β : Type} (k : Nat) (a0_0 a0_1 a0_2 a0_3 a0_4 : Int) (a0_5 a0_6 a0_7 a0_8 : Bool) (a0_9 : List (den rng)) (a0_10 : List (den (.int .u8))) (a1_0 a1_1 a1_2 a1_3 a1_4 : Int) (a1_5 a1_6 a1_7 a1_8 : Bool) (a1_9 : List (den rng)) (a1_10 : List (den (.int .u8))) (K : A × List (List Leaf) → Option β) : evalF (F63_E k) Try.f63 (F63_a a0_0 a0_1 a0_2 a0_3 a0_4 a0_5 a0_6 a0_7 a0_8 a0_9 a0_10 a1_0 a1_1 a1_2 a1_3 a1_4 a1_5 a1_6 a1_7 a1_8 a1_9 a1_10) K =
    F63_T k a0_0 a0_1 a0_2 a0_3 a0_4 a0_5 a0_6 a0_7 a0_8 a0_9 a0_10 a1_0 a1_1 a1_2 a1_3 a1_4 a1_5 a1_6 a1_7 a1_8 a1_9 a1_10 (fun x5_0 => loopG (F63_E k) Try.f63 [1, 1, 0, 1, 0] 0 (kontAt (F63_E k) [1, 1, 0, 1, 0] (bodyOf Try.f63) 0 (endC (F63_E k) Try.f63 (F63_a a0_0 a0_1 a0_2 a0_3 a0_4 a0_5 a0_6 a0_7 a0_8 a0_9 a0_10 a1_0 a1_1 a1_2 a1_3 a1_4 a1_5 a1_6 a1_7 a1_8 a1_9 a1_10) K)) k (F63_s0 a0_0 a0_1 a0_2 a0_3 a0_4 a0_5 a0_6 a0_7 a0_8 a0_9 a0_10 a1_0 a1_1 a1_2 a1_3 a1_4 a1_5 a1_6 a1_7 a1_8 a1_9 a1_10 x5_0)) (fun r => K (F63_r r)) := by kernel_rfl
theorem F63_ev {β : Type} (k : Nat) (a0_0 a0_1 a0_2 a0_3 a0_4 : Int) (a0_5 a0_6 a0_7 a0_8 : Bool) (a0_9 : List (den rng)) (a0_10 : List (den (.int .u8))) (a1_0 a1_1 a1_2 a1_3 a1_4 : Int) (a1_5 a1_6 a1_7 a1_8 : Bool) (a1_9 : List (den rng)) (a1_10 : List (den (.int .u8))) (K : A × List (List Leaf) → Option β) : evalF (F63_E k) Try.f63 (F63_a a0_0 a0_1 a0_2 a0_3 a0_4 a0_5 a0_6 a0_7 a0_8 a0_9 a0_10 a1_0 a1_1 a1_2 a1_3 a1_4 a1_5 a1_6 a1_7 a1_8 a1_9 a1_10) K = (F63 k a0_0 a0_1 a0_2 a0_3 a0_4 a0_5 a0_6 a0_7 a0_8 a0_9 a0_10 a1_0 a1_1 a1_2 a1_3 a1_4 a1_5 a1_6 a1_7 a1_8 a1_9 a1_10).bind fun r => K (F63_r r) := by
  rw [F63_st, F63]
  simp only [F63_T, bind_cond, Option.bind_assoc, Option.bind_some, Option.bind_none, Option.bind_fun_some, F63_l0_lp]
theorem F63_con (k : Nat) (a0_0 a0_1 a0_2 a0_3 a0_4 : Int) (a0_5 a0_6 a0_7 a0_8 : Bool) (a0_9 : List (den rng)) (a0_10 : List (den (.int .u8))) (a1_0 a1_1 a1_2 a1_3 a1_4 : Int) (a1_5 a1_6 a1_7 a1_8 : Bool) (a1_9 : List (den rng)) (a1_10 : List (den (.int .u8))) : Contract Try.prog 63 (F63_a a0_0 a0_1 a0_2 a0_3 a0_4 a0_5 a0_6 a0_7 a0_8 a0_9 a0_10 a1_0 a1_1 a1_2 a1_3 a1_4 a1_5 a1_6 a1_7 a1_8 a1_9 a1_10) ⟨F63 k a0_0 a0_1 a0_2 a0_3 a0_4 a0_5 a0_6 a0_7 a0_8 a0_9 a0_10 a1_0 a1_1 a1_2 a1_3 a1_4 a1_5 a1_6 a1_7 a1_8 a1_9 a1_10, F63_r⟩ := con_of (envOk .none _ _ _ _) mixed Try.func63 rfl rfl (F63_ev k a0_0 a0_1 a0_2 a0_3 a0_4 a0_5 a0_6 a0_7 a0_8 a0_9 a0_10 a1_0 a1_1 a1_2 a1_3 a1_4 a1_5 a1_6 a1_7 a1_8 a1_9 a1_10 some)
def F63_sh : List AK := [.agg [.l (.int .i64), .l (.int .i64), .l (.int .i64), .l (.int .i64), .l (.int .i64), .l (.bool), .l (.bool), .l (.bool), .l (.bool), .l (.sl .ro rng), .l (.sl .ro (.int .u8))], .agg [.l (.int .i64), .l (.int .i64), .l (.int .i64), .l (.int .i64), .l (.int .i64), .l (.bool), .l (.bool), .l (.bool), .l (.bool), .l (.sl .ro rng), .l (.sl .ro (.int .u8))]]
def F63_p (k : Nat) : List Arg → Option CR := cle F63_sh fun x => ⟨F63 k x.1.1 x.1.2.1 x.1.2.2.1 x.1.2.2.2.1 x.1.2.2.2.2.1 x.1.2.2.2.2.2.1 x.1.2.2.2.2.2.2.1 x.1.2.2.2.2.2.2.2.1 x.1.2.2.2.2.2.2.2.2.1 x.1.2.2.2.2.2.2.2.2.2.1 x.1.2.2.2.2.2.2.2.2.2.2.1 x.2.1.1 x.2.1.2.1 x.2.1.2.2.1 x.2.1.2.2.2.1 x.2.1.2.2.2.2.1 x.2.1.2.2.2.2.2.1 x.2.1.2.2.2.2.2.2.1 x.2.1.2.2.2.2.2.2.2.1 x.2.1.2.2.2.2.2.2.2.2.1 x.2.1.2.2.2.2.2.2.2.2.2.1 x.2.1.2.2.2.2.2.2.2.2.2.2.1, F63_r⟩
theorem F63_q (k : Nat) : ∀ xs cr, F63_p k xs = some cr → Contract Try.prog 63 xs cr := cle_ok fun x => F63_con k _ _ _ _ _ _ _ _ _ _ _ _ _ _ _ _ _ _ _ _ _ _
theorem F63_f : FnOk Try.prog 63 := .of (by kernel_rfl)
/-! 64: loop.example/netstack/spec.SegmentLong -/
abbrev F64_E (k : Nat) : Env := env noTab noHint .own [] k
abbrev F64_a (a0_0 a0_1 a0_2 a0_3 a0_4 : Int) (a0_5 a0_6 a0_7 a0_8 : Bool) (a0_9 : List (den rng)) (a0_10 : List (den (.int .u8))) : List Arg := [.agg [.l (.v (.int .i64 a0_0)), .l (.v (.int .i64 a0_1)), .l (.v (.int .i64 a0_2)), .l (.v (.int .i64 a0_3)), .l (.v (.int .i64 a0_4)), .l (.v (.bool a0_5)), .l (.v (.bool a0_6)), .l (.v (.bool a0_7)), .l (.v (.bool a0_8)), .l (.s .ro rng a0_9), .l (.s .ro (.int .u8) a0_10)]]
def F64_r (r : Int) : A × List (List Leaf) := (.one (.v (.int .i64 r)), [])
def F64_T {β : Type} (k : Nat) (a0_0 a0_1 a0_2 a0_3 a0_4 : Int) (a0_5 a0_6 a0_7 a0_8 : Bool) (a0_9 : List (den rng)) (a0_10 : List (den (.int .u8))) (RET : Int → Option β) : Option β := cond a0_5 (cond a0_7 (RET (IntKind.i64.wrap ((IntKind.i64.wrap (((a0_10.length : Nat) : Int) + 1)) + 1))) (RET (IntKind.i64.wrap (((a0_10.length : Nat) : Int) + 1)))) (cond a0_7 (RET (IntKind.i64.wrap (((a0_10.length : Nat) : Int) + 1))) (RET ((a0_10.length : Nat) : Int)))
def F64 (k : Nat) (a0_0 a0_1 a0_2 a0_3 a0_4 : Int) (a0_5 a0_6 a0_7 a0_8 : Bool) (a0_9 : List (den rng)) (a0_10 : List (den (.int .u8))) : Option (Int) := F64_T k a0_0 a0_1 a0_2 a0_3 a0_4 a0_5 a0_6 a0_7 a0_8 a0_9 a0_10 some
theorem F64_st {β : Type} (k : Nat) (a0_0 a0_1 a0_2 a0_3 a0_4 : Int) (a0_5 a0_6 a0_7 a0_8 : Bool) (a0_9 : List (den rng)) (a0_10 : List (den (.int .u8))) (K : A × List (List Leaf) → Option β) : evalF (F64_E k) Try.f64 (F64_a a0_0 a0_1 a0_2 a0_3 a0_4 a0_5 a0_6 a0_7 a0_8 a0_9 a0_10) K =
    F64_T k a0_0 a0_1 a0_2 a0_3 a0_4 a0_5 a0_6 a0_7 a0_8 a0_9 a0_10 (fun r => K (F64_r r)) := by kernel_rfl
theorem F64_ev {β : Type} (k : Nat) (a0_0 a0_1 a0_2 a0_3 a0_4 : Int) (a0_5 a0_6 a0_7 a0_8 : Bool) (a0_9 : List (den rng)) (a0_10 : List (den (.int .u8))) (K : A × List (List Leaf) → Option β) : evalF (F64_E k) Try.f64 (F64_a a0_0 a0_1 a0_2 a0_3 a0_4 a0_5 a0_6 a0_7 a0_8 a0_9 a0_10) K = (F64 k a0_0 a0_1 a0_2 a0_3 a0_4 a0_5 a0_6 a0_7 a0_8 a0_9 a0_10).bind fun r => K (F64_r r) := by
  rw [F64_st, F64]
  simp only [F64_T, bind_cond, Option.bind_assoc, Option.bind_some, Option.bind_none, Option.bind_fun_some]
theorem F64_con (k : Nat) (a0_0 a0_1 a0_2 a0_3 a0_4 : Int) (a0_5 a0_6 a0_7 a0_8 : Bool) (a0_9 : List (den rng)) (a0_10 : List (den (.int .u8))) : Contract Try.prog 64 (F64_a a0_0 a0_1 a0_2 a0_3 a0_4 a0_5 a0_6 a0_7 a0_8 a0_9 a0_10) ⟨F64 k a0_0 a0_1 a0_2 a0_3 a0_4 a0_5 a0_6 a0_7 a0_8 a0_9 a0_10, F64_r⟩ := con_of (envOk .none _ _ _ _) mixed Try.func64 rfl rfl (F64_ev k a0_0 a0_1 a0_2 a0_3 a0_4 a0_5 a0_6 a0_7 a0_8 a0_9 a0_10 some)
def F64_sh : List AK := [.agg [.l (.int .i64), .l (.int .i64), .l (.int .i64), .l (.int .i64), .l (.int .i64), .l (.bool), .l (.bool), .l (.bool), .l (.bool), .l (.sl .ro rng), .l (.sl .ro (.int .u8))]]
def F64_p (k : Nat) : List Arg → Option CR := cle F64_sh fun x => ⟨F64 k x.1.1 x.1.2.1 x.1.2.2.1 x.1.2.2.2.1 x.1.2.2.2.2.1 x.1.2.2.2.2.2.1 x.1.2.2.2.2.2.2.1 x.1.2.2.2.2.2.2.2.1 x.1.2.2.2.2.2.2.2.2.1 x.1.2.2.2.2.2.2.2.2.2.1 x.1.2.2.2.2.2.2.2.2.2.2.1, F64_r⟩
theorem F64_q (k : Nat) : ∀ xs cr, F64_p k xs = some cr → Contract Try.prog 64 xs cr := cle_ok fun x => F64_con k _ _ _ _ _ _ _ _ _ _ _
theorem F64_f : FnOk Try.prog 64 := .of (by kernel_rfl)
/-! 21: loop.example/netstack/spec.SegmentJoin -/
def F21_t (k : Nat) : Tab := entT 50 (F50_p k) <| entT 63 (F63_p k) <| entT 64 (F64_p k) <| entT 53 (F53_p k) <| entT 52 (F52_p k) <| noTab
abbrev F21_E (k : Nat) : Env := env (F21_t k) noHint .own [] k
abbrev F21_a (a0_0 a0_1 a0_2 a0_3 a0_4 : Int) (a0_5 a0_6 a0_7 a0_8 : Bool) (a0_9 : List (den rng)) (a0_10 : List (den (.int .u8))) (a1_0 a1_1 a1_2 a1_3 a1_4 : Int) (a1_5 a1_6 a1_7 a1_8 : Bool) (a1_9 : List (den rng)) (a1_10 : List (den (.int .u8))) : List Arg := [.agg [.l (.v (.int .i64 a0_0)), .l (.v (.int .i64 a0_1)), .l (.v (.int .i64 a0_2)), .l (.v (.int .i64 a0_3)), .l (.v (.int .i64 a0_4)), .l (.v (.bool a0_5)), .l (.v (.bool a0_6)), .l (.v (.bool a0_7)), .l (.v (.bool a0_8)), .l (.s .ro rng a0_9), .l (.s .ro (.int .u8) a0_10)], .agg [.l (.v (.int .i64 a1_0)), .l (.v (.int .i64 a1_1)), .l (.v (.int .i64 a1_2)), .l (.v (.int .i64 a1_3)), .l (.v (.int .i64 a1_4)), .l (.v (.bool a1_5)), .l (.v (.bool a1_6)), .l (.v (.bool a1_7)), .l (.v (.bool a1_8)), .l (.s .ro rng a1_9), .l (.s .ro (.int .u8) a1_10)]]
def F21_r (r : Int × Int × Int × Int × Int × Bool × Bool × Bool × Bool × List (den rng) × List (den (.int .u8)) × Bool) : A × List (List Leaf) := (.tup [(true, [.v (.int .i64 r.1), .v (.int .i64 r.2.1), .v (.int .i64 r.2.2.1), .v (.int .i64 r.2.2.2.1), .v (.int .i64 r.2.2.2.2.1), .v (.bool r.2.2.2.2.2.1), .v (.bool r.2.2.2.2.2.2.1), .v (.bool r.2.2.2.2.2.2.2.1), .v (.bool r.2.2.2.2.2.2.2.2.1), .s .own rng r.2.2.2.2.2.2.2.2.2.1, .s .own (.int .u8) r.2.2.2.2.2.2.2.2.2.2.1]), (false, [.v (.bool r.2.2.2.2.2.2.2.2.2.2.2)])], [])
def F21_T {β : Type} (k : Nat) (a0_0 a0_1 a0_2 a0_3 a0_4 : Int) (a0_5 a0_6 a0_7 a0_8 : Bool) (a0_9 : List (den rng)) (a0_10 : List (den (.int .u8))) (a1_0 a1_1 a1_2 a1_3 a1_4 : Int) (a1_5 a1_6 a1_7 a1_8 : Bool) (a1_9 : List (den rng)) (a1_10 : List (den (.int .u8))) (RET : (Int × Int × Int × Int × Int × Bool × Bool × Bool × Bool × List (den rng) × List (den (.int .u8)) × Bool) → Option β) : Option β := (F50 k a0_0 a0_1 a0_2 a0_3 a0_4 a0_5 a0_6 a0_7 a0_8 a0_9 a0_10).bind fun b1 => cond (!b1) (RET (0, 0, 0, 0, 0, false, false, false, false, [], [], false)) ((F50 k a1_0 a1_1 a1_2 a1_3 a1_4 a1_5 a1_6 a1_7 a1_8 a1_9 a1_10).bind fun b2 => cond (!b2) (RET (0, 0, 0, 0, 0, false, false, false, false, [], [], false)) ((F63 k a0_0 a0_1 a0_2 a0_3 a0_4 a0_5 a0_6 a0_7 a0_8 a0_9 a0_10 a1_0 a1_1 a1_2 a1_3 a1_4 a1_5 a1_6 a1_7 a1_8 a1_9 a1_10).bind fun b3 => cond (!b3) (RET (0, 0, 0, 0, 0, false, false, false, false, [], [], false)) (cond a0_8 (RET (0, 0, 0, 0, 0, false, false, false, false, [], [], false)) (cond a1_8 (RET (0, 0, 0, 0, 0, false, false, false, false, [], [], false)) (cond (((a0_10.length : Nat) : Int) == 0) (RET (0, 0, 0, 0, 0, false, false, false, false, [], [], false)) (cond (((a1_10.length : Nat) : Int) == 0) (RET (0, 0, 0, 0, 0, false, false, false, false, [], [], false)) (cond a0_7 (RET (0, 0, 0, 0, 0, false, false, false, false, [], [], false)) (cond a1_5 (RET (0, 0, 0, 0, 0, false, false, false, false, [], [], false)) ((F64 k a0_0 a0_1 a0_2 a0_3 a0_4 a0_5 a0_6 a0_7 a0_8 a0_9 a0_10).bind fun b4 => (F53 k (IntKind.i64.wrap (a0_2 + b4))).bind fun b5 => cond (a1_2 != b5) (RET (0, 0, 0, 0, 0, false, false, false, false, [], [], false)) (cond (decide ((IntKind.i64.wrap (((a0_10.length : Nat) : Int) + ((a1_10.length : Nat) : Int))) > 12)) (RET (0, 0, 0, 0, 0, false, false, false, false, [], [], false)) ((F52 k a0_0 a0_1 a0_2 a0_3 a0_4 a0_5 a0_6 a0_7 a0_8 a0_9 a0_10).bind fun b6 => cond (decide ((b6.2.2.2.2.2.2.2.2.2.2.length + a1_10.length) * 1 ≤ 140737488355328)) (RET (b6.1, b6.2.1, b6.2.2.1, b6.2.2.2.1, b6.2.2.2.2.1, b6.2.2.2.2.2.1, b6.2.2.2.2.2.2.1, a1_7, b6.2.2.2.2.2.2.2.2.1, b6.2.2.2.2.2.2.2.2.2.1, b6.2.2.2.2.2.2.2.2.2.2 ++ a1_10, true)) none)))))))))))
def F21 (k : Nat) (a0_0 a0_1 a0_2 a0_3 a0_4 : Int) (a0_5 a0_6 a0_7 a0_8 : Bool) (a0_9 : List (den rng)) (a0_10 : List (den (.int .u8))) (a1_0 a1_1 a1_2 a1_3 a1_4 : Int) (a1_5 a1_6 a1_7 a1_8 : Bool) (a1_9 : List (den rng)) (a1_10 : List (den (.int .u8))) : Option (Int × Int × Int × Int × Int × Bool × Bool × Bool × Bool × List (den rng) × List (den (.int .u8)) × Bool) := F21_T k a0_0 a0_1 a0_2 a0_3 a0_4 a0_5 a0_6 a0_7 a0_8 a0_9 a0_10 a1_0 a1_1 a1_2 a1_3 a1_4 a1_5 a1_6 a1_7 a1_8 a1_9 a1_10 some
theorem F21_st {β : Type} (k : Nat) (a0_0 a0_1 a0_2 a0_3 a0_4 : Int) (a0_5 a0_6 a0_7 a0_8 : Bool) (a0_9 : List (den rng)) (a0_10 : List (den (.int .u8))) (a1_0 a1_1 a1_2 a1_3 a1_4 : Int) (a1_5 a1_6 a1_7 a1_8 : Bool) (a1_9 : List (den rng)) (a1_10 : List (den (.int .u8))) (K : A × List (List Leaf) → Option β) : evalF (F21_E k) Try.f21 (F21_a a0_0 a0_1 a0_2 a0_3 a0_4 a0_5 a0_6 a0_7 a0_8 a0_9 a0_10 a1_0 a1_1 a1_2 a1_3 a1_4 a1_5 a1_6 a1_7 a1_8 a1_9 a1_10) K =
    F21_T k a0_0 a0_1 a0_2 a0_3 a0_4 a0_5 a0_6 a0_7 a0_8 a0_9 a0_10 a1_0 a1_1 a1_2 a1_3 a1_4 a1_5 a1_6 a1_7 a1_8 a1_9 a1_10 (fun r => K (F21_r r)) := by kernel_rfl
theorem F21_ev {β : Type} (k : Nat) (a0_0 a0_1 a0_2 a0_3 a0_4 : Int) (a0_5 a0_6 a0_7 a0_8 : Bool) (a0_9 : List (den rng)) (a0_10 : List (den (.int .u8))) (a1_0 a1_1 a1_2 a1_3 a1_4 : Int) (a1_5 a1_6 a1_7 a1_8 : Bool) (a1_9 : List (den rng)) (a1_10 : List (den (.int .u8))) (K : A × List (List Leaf) → Option β) : evalF (F21_E k) Try.f21 (F21_a a0_0 a0_1 a0_2 a0_3 a0_4 a0_5 a0_6 a0_7 a0_8 a0_9 a0_10 a1_0 a1_1 a1_2 a1_3 a1_4 a1_5 a1_6 a1_7 a1_8 a1_9 a1_10) K = (F21 k a0_0 a0_1 a0_2 a0_3 a0_4 a0_5 a0_6 a0_7 a0_8 a0_9 a0_10 a1_0 a1_1 a1_2 a1_3 a1_4 a1_5 a1_6 a1_7 a1_8 a1_9 a1_10).bind fun r => K (F21_r r) := by
  rw [F21_st, F21]
  simp only [F21_T, bind_cond, Option.bind_assoc, Option.bind_some, Option.bind_none, Option.bind_fun_some]
theorem F21_tOk (k : Nat) : TabFn Try.prog (F21_t k) := .ent (F50_q k) F50_f (.ent (F63_q k) F63_f (.ent (F64_q k) F64_f (.ent (F53_q k) F53_f (.ent (F52_q k) F52_f (.none)))))
theorem F21_con (k : Nat) (a0_0 a0_1 a0_2 a0_3 a0_4 : Int) (a0_5 a0_6 a0_7 a0_8 : Bool) (a0_9 : List (den rng)) (a0_10 : List (den (.int .u8))) (a1_0 a1_1 a1_2 a1_3 a1_4 : Int) (a1_5 a1_6 a1_7 a1_8 : Bool) (a1_9 : List (den rng)) (a1_10 : List (den (.int .u8))) : Contract Try.prog 21 (F21_a a0_0 a0_1 a0_2 a0_3 a0_4 a0_5 a0_6 a0_7 a0_8 a0_9 a0_10 a1_0 a1_1 a1_2 a1_3 a1_4 a1_5 a1_6 a1_7 a1_8 a1_9 a1_10) ⟨F21 k a0_0 a0_1 a0_2 a0_3 a0_4 a0_5 a0_6 a0_7 a0_8 a0_9 a0_10 a1_0 a1_1 a1_2 a1_3 a1_4 a1_5 a1_6 a1_7 a1_8 a1_9 a1_10, F21_r⟩ := con_of (envOk (F21_tOk k) _ _ _ _) mixed Try.func21 rfl rfl (F21_ev k a0_0 a0_1 a0_2 a0_3 a0_4 a0_5 a0_6 a0_7 a0_8 a0_9 a0_10 a1_0 a1_1 a1_2 a1_3 a1_4 a1_5 a1_6 a1_7 a1_8 a1_9 a1_10 some)
def F21_sh : List AK := [.agg [.l (.int .i64), .l (.int .i64), .l (.int .i64), .l (.int .i64), .l (.int .i64), .l (.bool), .l (.bool), .l (.bool), .l (.bool), .l (.sl .ro rng), .l (.sl .ro (.int .u8))], .agg [.l (.int .i64), .l (.int .i64), .l (.int .i64), .l (.int .i64), .l (.int .i64), .l (.bool), .l (.bool), .l (.bool), .l (.bool), .l (.sl .ro rng), .l (.sl .ro (.int .u8))]]
def F21_p (k : Nat) : List Arg → Option CR := cle F21_sh fun x => ⟨F21 k x.1.1 x.1.2.1 x.1.2.2.1 x.1.2.2.2.1 x.1.2.2.2.2.1 x.1.2.2.2.2.2.1 x.1.2.2.2.2.2.2.1 x.1.2.2.2.2.2.2.2.1 x.1.2.2.2.2.2.2.2.2.1 x.1.2.2.2.2.2.2.2.2.2.1 x.1.2.2.2.2.2.2.2.2.2.2.1 x.2.1.1 x.2.1.2.1 x.2.1.2.2.1 x.2.1.2.2.2.1 x.2.1.2.2.2.2.1 x.2.1.2.2.2.2.2.1 x.2.1.2.2.2.2.2.2.1 x.2.1.2.2.2.2.2.2.2.1 x.2.1.2.2.2.2.2.2.2.2.1 x.2.1.2.2.2.2.2.2.2.2.2.1 x.2.1.2.2.2.2.2.2.2.2.2.2.1, F21_r⟩
theorem F21_q (k : Nat) : ∀ xs cr, F21_p k xs = some cr → Contract Try.prog 21 xs cr := cle_ok fun x => F21_con k _ _ _ _ _ _ _ _ _ _ _ _ _ _ _ _ _ _ _ _ _ _
theorem F21_f : FnOk Try.prog 21 := .of (by kernel_rfl)
/-! 60: loop.example/netstack/laws.sameRanges -/
def F60_h : Nat → Hint
  | 0 => ⟨[(0, .plain), (1, .plain), (5, .plain)], []⟩
  | _ => ⟨[], []⟩
abbrev F60_E (k : Nat) : Env := env noTab F60_h .own [] k
abbrev F60_a (a0 a1 : List (den rng)) : List Arg := [.one (.l (.s .ro rng a0)), .one (.l (.s .ro rng a1))]
def F60_r (r : Bool) : A × List (List Leaf) := (.one (.v (.bool r)), [])
def F60_s0 (a0 a1 : List (den rng)) (x5_0 : Int) : St := ⟨(.one (.s .ro rng a0)) :: (.one (.s .ro rng a1)) :: dz 3 ((.one (.v (.int .i64 x5_0))) :: dz 20 []), []⟩
def F60_l0_T {β : Type} (k : Nat) (a0 a1 : List (den rng)) (NX : Int → Option β) (RET : Bool → Option β) (x5_0 : Int) : Option β := cond (decide (x5_0 < ((a0.length : Nat) : Int))) (cond (decide (0 ≤ x5_0)) (cond (decide (x5_0 < ((a0.length : Nat) : Int))) (cond (decide (0 ≤ x5_0)) (cond (decide (x5_0 < ((a1.length : Nat) : Int))) (cond (!(eqD rng (atI a0 x5_0) (atI a1 x5_0))) (RET false) (NX (IntKind.i64.wrap (x5_0 + 1)))) none) none) none) none) (RET true)
def F60_l0 (k : Nat) (a0 a1 : List (den rng)) : Nat → Int → Option (Bool)
  | 0, _ => none
  | n + 1, x5_0 => F60_l0_T k a0 a1 (fun x5_0 => F60_l0 k a0 a1 n x5_0) some x5_0
theorem F60_l0_rd {β : Type} (k n : Nat) (a0 a1 : List (den rng)) (x5_0 : Int) (K : A × List (List Leaf) → Option β) :
    loopG (F60_E k) Try.f60 [1, 1, 0, 1, 0] 0 (kontAt (F60_E k) [1, 1, 0, 1, 0] (bodyOf Try.f60) 0 (endC (F60_E k) Try.f60 (F60_a a0 a1) K)) (n + 1) (F60_s0 a0 a1 x5_0) =
    F60_l0_T k a0 a1 (fun x5_0 => loopG (F60_E k) Try.f60 [1, 1, 0, 1, 0] 0 (kontAt (F60_E k) [1, 1, 0, 1, 0] (bodyOf Try.f60) 0 (endC (F60_E k) Try.f60 (F60_a a0 a1) K)) n (F60_s0 a0 a1 x5_0)) (fun r => K (F60_r r)) x5_0 := by kernel_rfl
theorem F60_l0_lp {β : Type} (k : Nat) (a0 a1 : List (den rng)) (K : A × List (List Leaf) → Option β) (n : Nat) : ∀ (x5_0 : Int), loopG (F60_E k) Try.f60 [1, 1, 0, 1, 0] 0 (kontAt (F60_E k) [1, 1, 0, 1, 0] (bodyOf Try.f60) 0 (endC (F60_E k) Try.f60 (F60_a a0 a1) K)) n (F60_s0 a0 a1 x5_0) =
    (F60_l0 k a0 a1 n x5_0).bind fun r => K (F60_r r) := by
  induction n with
  | zero => intros; rfl
  | succ n ih =>
    intros
    rw [F60_l0_rd, F60_l0]
    simp only [F60_l0_T, bind_cond, Option.bind_assoc, Option.bind_some, Option.bind_none, Option.bind_fun_some, ih]
def F60_T {β : Type} (k : Nat) (a0 a1 : List (den rng)) (LP0 : Int → Option β) (RET : Bool → Option β) : Option β := cond (((a0.length : Nat) : Int) != ((a1.length : Nat) : Int)) (RET false) (LP0 0)
def F60 (k : Nat) (a0 a1 : List (den rng)) : Option (Bool) := F60_T k a0 a1 (fun x5_0 => F60_l0 k a0 a1 k x5_0) some
theorem F60_st {β : Type} (k : Nat) (a0 a1 : List (den rng)) (K : A × List (List Leaf) → Option β) : evalF (F60_E k) Try.f60 (F60_a a0 a1) K =
    F60_T k a0 a1 (fun x5_0 => loopG (F60_E k) Try.f60 [1, 1, 0, 1, 0] 0 (kontAt (F60_E k) [1, 1, 0, 1, 0] (bodyOf Try.f60) 0 (endC (F60_E k) Try.f60 (F60_a a0 a1) K)) k (F60_s0 a0 a1 x5_0)) (fun r => K (F60_r r)) := by kernel_rfl
theorem F60_ev {β : Type} (k : Nat) (a0 a1 : List (den rng)) (K : A × List (List Leaf) → Option β) : evalF (F60_E k) Try.f60 (F60_a a0 a1) K = (F60 k a0 a1).bind fun r => K (F60_r r) := by
  rw [F60_st, F60]
  simp only [F60_T, bind_cond, Option.bind_assoc, Option.bind_some, Option.bind_none, Option.bind_fun_some, F60_l0_lp]
theorem F60_con (k : Nat) (a0 a1 : List (den rng)) : Contract Try.prog 60 (F60_a a0 a1) ⟨F60 k a0 a1, F60_r⟩ := con_of (envOk .none _ _ _ _) mixed Try.func60 rfl rfl (F60_ev k a0 a1 some)
def F60_sh : List AK := [.one (.l (.sl .ro rng)), .one (.l (.sl .ro rng))]
def F60_p (k : Nat) : List Arg → Option CR := cle F60_sh fun x => ⟨F60 k x.1 x.2.1, F60_r⟩
theorem F60_q (k : Nat) : ∀ xs cr, F60_p k xs = some cr → Contract Try.prog 60 xs cr := cle_ok fun x => F60_con k _ _
theorem F60_f : FnOk Try.prog 60 := .of (by kernel_rfl)
/-! 35: loop.example/netstack/laws.sameBytes -/
abbrev F35_E (k : Nat) : Env := env noTab noHint .own [] k
abbrev F35_a (a0 a1 : List (den (.int .u8))) : List Arg := [.one (.l (.s .ro (.int .u8) a0)), .one (.l (.s .ro (.int .u8) a1))]
def F35_r (r : Bool) : A × List (List Leaf) := (.one (.v (.bool r)), [])
def F35 (k : Nat) (a0 a1 : List (den (.int .u8))) : Option (Bool) := some ((strOf a0).toList == (strOf a1).toList)
theorem F35_st {β : Type} (k : Nat) (a0 a1 : List (den (.int .u8))) (K : A × List (List Leaf) → Option β) : evalF (F35_E k) Try.f35 (F35_a a0 a1) K =
    K (.one (.v (.bool ((strOf a0).toList == (strOf a1).toList))), []) := by kernel_rfl
theorem F35_ev {β : Type} (k : Nat) (a0 a1 : List (den (.int .u8))) (K : A × List (List Leaf) → Option β) : evalF (F35_E k) Try.f35 (F35_a a0 a1) K = (F35 k a0 a1).bind fun r => K (F35_r r) := by
  rw [F35_st, F35]
  simp only [F35_r, bind_cond, Option.bind_assoc, Option.bind_some, Option.bind_none, Option.bind_fun_some]
theorem F35_con (k : Nat) (a0 a1 : List (den (.int .u8))) : Contract Try.prog 35 (F35_a a0 a1) ⟨F35 k a0 a1, F35_r⟩ := con_of (envOk .none _ _ _ _) mixed Try.func35 rfl rfl (F35_ev k a0 a1 some)
def F35_sh : List AK := [.one (.l (.sl .ro (.int .u8))), .one (.l (.sl .ro (.int .u8)))]
def F35_p (k : Nat) : List Arg → Option CR := cle F35_sh fun x => ⟨F35 k x.1 x.2.1, F35_r⟩
theorem F35_q (k : Nat) : ∀ xs cr, F35_p k xs = some cr → Contract Try.prog 35 xs cr := cle_ok fun x => F35_con k _ _
theorem F35_f : FnOk Try.prog 35 := .of (by kernel_rfl)
/-! 18: loop.example/netstack/laws.sameSegment -/
def F18_t (k : Nat) : Tab := entT 60 (F60_p k) <| entT 35 (F35_p k) <| noTab
abbrev F18_E (k : Nat) : Env := env (F18_t k) noHint .own [] k
abbrev F18_a (a0_0 a0_1 a0_2 a0_3 a0_4 : Int) (a0_5 a0_6 a0_7 a0_8 : Bool) (a0_9 : List (den rng)) (a0_10 : List (den (.int .u8))) (a1_0 a1_1 a1_2 a1_3 a1_4 : Int) (a1_5 a1_6 a1_7 a1_8 : Bool) (a1_9 : List (den rng)) (a1_10 : List (den (.int .u8))) : List Arg := [.agg [.l (.v (.int .i64 a0_0)), .l (.v (.int .i64 a0_1)), .l (.v (.int .i64 a0_2)), .l (.v (.int .i64 a0_3)), .l (.v (.int .i64 a0_4)), .l (.v (.bool a0_5)), .l (.v (.bool a0_6)), .l (.v (.bool a0_7)), .l (.v (.bool a0_8)), .l (.s .ro rng a0_9), .l (.s .ro (.int .u8) a0_10)], .agg [.l (.v (.int .i64 a1_0)), .l (.v (.int .i64 a1_1)), .l (.v (.int .i64 a1_2)), .l (.v (.int .i64 a1_3)), .l (.v (.int .i64 a1_4)), .l (.v (.bool a1_5)), .l (.v (.bool a1_6)), .l (.v (.bool a1_7)), .l (.v (.bool a1_8)), .l (.s .ro rng a1_9), .l (.s .ro (.int .u8) a1_10)]]
def F18_r (r : Bool) : A × List (List Leaf) := (.one (.v (.bool r)), [])
def F18_T {β : Type} (k : Nat) (a0_0 a0_1 a0_2 a0_3 a0_4 : Int) (a0_5 a0_6 a0_7 a0_8 : Bool) (a0_9 : List (den rng)) (a0_10 : List (den (.int .u8))) (a1_0 a1_1 a1_2 a1_3 a1_4 : Int) (a1_5 a1_6 a1_7 a1_8 : Bool) (a1_9 : List (den rng)) (a1_10 : List (den (.int .u8))) (RET : Bool → Option β) : Option β := cond (a0_0 == a1_0) (cond (a0_1 == a1_1) (cond (a0_2 == a1_2) (cond (a0_3 == a1_3) (cond (a0_4 == a1_4) (cond (a0_5 == a1_5) (cond (a0_6 == a1_6) (cond (a0_7 == a1_7) (cond (a0_8 == a1_8) ((F60 k a0_9 a1_9).bind fun b1 => cond b1 ((F35 k a0_10 a1_10).bind fun b2 => RET b2) (RET false)) (RET false)) (RET false)) (RET false)) (RET false)) (RET false)) (RET false)) (RET false)) (RET false)) (RET false)
def F18 (k : Nat) (a0_0 a0_1 a0_2 a0_3 a0_4 : Int) (a0_5 a0_6 a0_7 a0_8 : Bool) (a0_9 : List (den rng)) (a0_10 : List (den (.int .u8))) (a1_0 a1_1 a1_2 a1_3 a1_4 : Int) (a1_5 a1_6 a1_7 a1_8 : Bool) (a1_9 : List (den rng)) (a1_10 : List (den (.int .u8))) : Option (Bool) := F18_T k a0_0 a0_1 a0_2 a0_3 a0_4 a0_5 a0_6 a0_7 a0_8 a0_9 a0_10 a1_0 a1_1 a1_2 a1_3 a1_4 a1_5 a1_6 a1_7 a1_8 a1_9 a1_10 some
theorem F18_st {β : Type} (k : Nat) (a0_0 a0_1 a0_2 a0_3 a0_4 : Int) (a0_5 a0_6 a0_7 a0_8 : Bool) (a0_9 : List (den rng)) (a0_10 : List (den (.int .u8))) (a1_0 a1_1 a1_2 a1_3 a1_4 : Int) (a1_5 a1_6 a1_7 a1_8 : Bool) (a1_9 : List (den rng)) (a1_10 : List (den (.int .u8))) (K : A × List (List Leaf) → Option β) : evalF (F18_E k) Try.f18 (F18_a a0_0 a0_1 a0_2 a0_3 a0_4 a0_5 a0_6 a0_7 a0_8 a0_9 a0_10 a1_0 a1_1 a1_2 a1_3 a1_4 a1_5 a1_6 a1_7 a1_8 a1_9 a1_10) K =
    F18_T k a0_0 a0_1 a0_2 a0_3 a0_4 a0_5 a0_6 a0_7 a0_8 a0_9 a0_10 a1_0 a1_1 a1_2 a1_3 a1_4 a1_5 a1_6 a1_7 a1_8 a1_9 a1_10 (fun r => K (F18_r r)) := by kernel_rfl
theorem F18_ev {β : Type} (k : Nat) (a0_0 a0_1 a0_2 a0_3 a0_4 : Int) (a0_5 a0_6 a0_7 a0_8 : Bool) (a0_9 : List (den rng)) (a0_10 : List (den (.int .u8))) (a1_0 a1_1 a1_2 a1_3 a1_4 : Int) (a1_5 a1_6 a1_7 a1_8 : Bool) (a1_9 : List (den rng)) (a1_10 : List (den (.int .u8))) (K : A × List (List Leaf) → Option β) : evalF (F18_E k) Try.f18 (F18_a a0_0 a0_1 a0_2 a0_3 a0_4 a0_5 a0_6 a0_7 a0_8 a0_9 a0_10 a1_0 a1_1 a1_2 a1_3 a1_4 a1_5 a1_6 a1_7 a1_8 a1_9 a1_10) K = (F18 k a0_0 a0_1 a0_2 a0_3 a0_4 a0_5 a0_6 a0_7 a0_8 a0_9 a0_10 a1_0 a1_1 a1_2 a1_3 a1_4 a1_5 a1_6 a1_7 a1_8 a1_9 a1_10).bind fun r => K (F18_r r) := by
  rw [F18_st, F18]
  simp only [F18_T, bind_cond, Option.bind_assoc, Option.bind_some, Option.bind_none, Option.bind_fun_some]
theorem F18_tOk (k : Nat) : TabFn Try.prog (F18_t k) := .ent (F60_q k) F60_f (.ent (F35_q k) F35_f (.none))
theorem F18_con (k : Nat) (a0_0 a0_1 a0_2 a0_3 a0_4 : Int) (a0_5 a0_6 a0_7 a0_8 : Bool) (a0_9 : List (den rng)) (a0_10 : List (den (.int .u8))) (a1_0 a1_1 a1_2 a1_3 a1_4 : Int) (a1_5 a1_6 a1_7 a1_8 : Bool) (a1_9 : List (den rng)) (a1_10 : List (den (.int .u8))) : Contract Try.prog 18 (F18_a a0_0 a0_1 a0_2 a0_3 a0_4 a0_5 a0_6 a0_7 a0_8 a0_9 a0_10 a1_0 a1_1 a1_2 a1_3 a1_4 a1_5 a1_6 a1_7 a1_8 a1_9 a1_10) ⟨F18 k a0_0 a0_1 a0_2 a0_3 a0_4 a0_5 a0_6 a0_7 a0_8 a0_9 a0_10 a1_0 a1_1 a1_2 a1_3 a1_4 a1_5 a1_6 a1_7 a1_8 a1_9 a1_10, F18_r⟩ := con_of (envOk (F18_tOk k) _ _ _ _) mixed Try.func18 rfl rfl (F18_ev k a0_0 a0_1 a0_2 a0_3 a0_4 a0_5 a0_6 a0_7 a0_8 a0_9 a0_10 a1_0 a1_1 a1_2 a1_3 a1_4 a1_5 a1_6 a1_7 a1_8 a1_9 a1_10 some)
def F18_sh : List AK := [.agg [.l (.int .i64), .l (.int .i64), .l (.int .i64), .l (.int .i64), .l (.int .i64), .l (.bool), .l (.bool), .l (.bool), .l (.bool), .l (.sl .ro rng), .l (.sl .ro (.int .u8))], .agg [.l (.int .i64), .l (.int .i64), .l (.int .i64), .l (.int .i64), .l (.int .i64), .l (.bool), .l (.bool), .l (.bool), .l (.bool), .l (.sl .ro rng), .l (.sl .ro (.int .u8))]]
def F18_p (k : Nat) : List Arg → Option CR := cle F18_sh fun x => ⟨F18 k x.1.1 x.1.2.1 x.1.2.2.1 x.1.2.2.2.1 x.1.2.2.2.2.1 x.1.2.2.2.2.2.1 x.1.2.2.2.2.2.2.1 x.1.2.2.2.2.2.2.2.1 x.1.2.2.2.2.2.2.2.2.1 x.1.2.2.2.2.2.2.2.2.2.1 x.1.2.2.2.2.2.2.2.2.2.2.1 x.2.1.1 x.2.1.2.1 x.2.1.2.2.1 x.2.1.2.2.2.1 x.2.1.2.2.2.2.1 x.2.1.2.2.2.2.2.1 x.2.1.2.2.2.2.2.2.1 x.2.1.2.2.2.2.2.2.2.1 x.2.1.2.2.2.2.2.2.2.2.1 x.2.1.2.2.2.2.2.2.2.2.2.1 x.2.1.2.2.2.2.2.2.2.2.2.2.1, F18_r⟩
theorem F18_q (k : Nat) : ∀ xs cr, F18_p k xs = some cr → Contract Try.prog 18 xs cr := cle_ok fun x => F18_con k _ _ _ _ _ _ _ _ _ _ _ _ _ _ _ _ _ _ _ _ _ _
theorem F18_f : FnOk Try.prog 18 := .of (by kernel_rfl)
/-! 91: loop.example/netstack/impl.bytesOf -/
def F91_h : Nat → Hint
  | 0 => ⟨[(0, .plain), (5, .plain), (6, .plain)], [(8000, .plain)]⟩
  | _ => ⟨[], []⟩
abbrev F91_E (k : Nat) : Env := env noTab F91_h .own [] k
abbrev F91_a (a0 a1 : Int) : List Arg := [.one (.l (.v (.int .i64 a0))), .one (.l (.v (.int .i64 a1)))]
def F91_r (r : List (den (.int .u8))) : A × List (List Leaf) := (.one (.s .own (.int .u8) r), [])
def F91_s0 (a0 a1 : Int) (x0_0 x6_0 : Int) (m8000_0 : List (den (.int .u8))) : St := ⟨(.one (.v (.int .i64 x0_0))) :: dz 4 ((.one (.a (.cell 8000) 0 0 none)) :: (.one (.v (.int .i64 x6_0))) :: dz 16 []), [(8000, ⟨.s .own (.int .u8) m8000_0, 0, 0⟩)]⟩
def F91_l0_T {β : Type} (k : Nat) (a0 a1 : Int) (NX : Int → Int → List (den (.int .u8)) → Option β) (RET : List (den (.int .u8)) → Option β) (x0_0 x6_0 : Int) (m8000_0 : List (den (.int .u8))) : Option β := cond (decide (x6_0 ≥ 0)) (cond (decide (0 ≤ x6_0)) (cond (decide (x6_0 < ((m8000_0.length : Nat) : Int))) (NX (x0_0.fdiv (2 ^ (8))) (IntKind.i64.wrap (x6_0 - 1)) (m8000_0.set x6_0.toNat (IntKind.u8.wrap (x0_0)))) none) none) (RET m8000_0)
def F91_l0 (k : Nat) (a0 a1 : Int) : Nat → Int → Int → List (den (.int .u8)) → Option (List (den (.int .u8)))
  | 0, _, _, _ => none
  | n + 1, x0_0, x6_0, m8000_0 => F91_l0_T k a0 a1 (fun x0_0 x6_0 m8000_0 => F91_l0 k a0 a1 n x0_0 x6_0 m8000_0) some x0_0 x6_0 m8000_0
theorem F91_l0_rd {β : Type} (k n : Nat) (a0 a1 : Int) (x0_0 x6_0 : Int) (m8000_0 : List (den (.int .u8))) (K : A × List (List Leaf) → Option β) :
    loopG (F91_E k) Try.f91 [1, 1, 0, 1, 0] 0 (kontAt (F91_E k) [1, 1, 0, 1, 0] (bodyOf Try.f91) 0 (endC (F91_E k) Try.f91 (F91_a a0 a1) K)) (n + 1) (F91_s0 a0 a1 x0_0 x6_0 m8000_0) =
    F91_l0_T k a0 a1 (fun x0_0 x6_0 m8000_0 => loopG (F91_E k) Try.f91 [1, 1, 0, 1, 0] 0 (kontAt (F91_E k) [1, 1, 0, 1, 0] (bodyOf Try.f91) 0 (endC (F91_E k) Try.f91 (F91_a a0 a1) K)) n (F91_s0 a0 a1 x0_0 x6_0 m8000_0)) (fun r => K (F91_r r)) x0_0 x6_0 m8000_0 := by kernel_rfl
theorem F91_l0_lp {β : Type} (k : Nat) (a0 a1 : Int) (K : A × List (List Leaf) → Option β) (n : Nat) : ∀ (x0_0 x6_0 : Int) (m8000_0 : List (den (.int .u8))), loopG (F91_E k) Try.f91 [1, 1, 0, 1, 0] 0 (kontAt (F91_E k) [1, 1, 0, 1, 0] (bodyOf Try.f91) 0 (endC (F91_E k) Try.f91 (F91_a a0 a1) K)) n (F91_s0 a0 a1 x0_0 x6_0 m8000_0) =
    (F91_l0 k a0 a1 n x0_0 x6_0 m8000_0).bind fun r => K (F91_r r) := by
  induction n with
  | zero => intros; rfl
  | succ n ih =>
    intros
    rw [F91_l0_rd, F91_l0]
    simp only [F91_l0_T, bind_cond, Option.bind_assoc, Option.bind_some, Option.bind_none, Option.bind_fun_some, ih]
def F91_T {β : Type} (k : Nat) (a0 a1 : Int) (LP0 : Int → Int → List (den (.int .u8)) → Option β) : Option β := cond (decide (0 ≤ a1) && decide (a1 = a1) && decide (a1 * (1 : Nat) ≤ 140737488355328)) (LP0 a0 (IntKind.i64.wrap (a1 - 1)) (List.replicate a1.toNat (dflt (.int .u8)))) none
def F91 (k : Nat) (a0 a1 : Int) : Option (List (den (.int .u8))) := F91_T k a0 a1 (fun x0_0 x6_0 m8000_0 => F91_l0 k a0 a1 k x0_0 x6_0 m8000_0)
theorem F91_st {β : Type} (k : Nat) (a0 a1 : Int) (K : A × List (List Leaf) → Option β) : evalF (F91_E k) Try.f91 (F91_a a0 a1) K =
    F91_T k a0 a1 (fun x0_0 x6_0 m8000_0 => loopG (F91_E k) Try.f91 [1, 1, 0, 1, 0] 0 (kontAt (F91_E k) [1, 1, 0, 1, 0] (bodyOf Try.f91) 0 (endC (F91_E k) Try.f91 (F91_a a0 a1) K)) k (F91_s0 a0 a1 x0_0 x6_0 m8000_0)) := by kernel_rfl
theorem F91_ev {β : Type} (k : Nat) (a0 a1 : Int) (K : A × List (List Leaf) → Option β) : evalF (F91_E k) Try.f91 (F91_a a0 a1) K = (F91 k a0 a1).bind fun r => K (F91_r r) := by
  rw [F91_st, F91]
  simp only [F91_T, bind_cond, Option.bind_assoc, Option.bind_some, Option.bind_none, Option.bind_fun_some, F91_l0_lp]
theorem F91_con (k : Nat) (a0 a1 : Int) : Contract Try.prog 91 (F91_a a0 a1) ⟨F91 k a0 a1, F91_r⟩ := con_of (envOk .none _ _ _ _) mixed Try.func91 rfl rfl (F91_ev k a0 a1 some)
def F91_sh : List AK := [.one (.l (.int .i64)), .one (.l (.int .i64))]
def F91_p (k : Nat) : List Arg → Option CR := cle F91_sh fun x => ⟨F91 k x.1 x.2.1, F91_r⟩
theorem F91_q (k : Nat) : ∀ xs cr, F91_p k xs = some cr → Contract Try.prog 91 xs cr := cle_ok fun x => F91_con k _ _
theorem F91_f : FnOk Try.prog 91 := .of (by kernel_rfl)
/-! 58: loop.example/netstack/impl.BytesOf -/
def F58_t (k : Nat) : Tab := entT 45 (F45_p k) <| entT 91 (F91_p k) <| noTab
abbrev F58_E (k : Nat) : Env := env (F58_t k) noHint .own [] k
abbrev F58_a (a0 a1 : Int) : List Arg := [.one (.l (.v (.int .i64 a0))), .one (.l (.v (.int .i64 a1)))]
def F58_r (r : List (den (.int .u8))) : A × List (List Leaf) := (.one (.s .own (.int .u8) r), [])
def F58_T {β : Type} (k : Nat) (a0 a1 : Int) (RET : List (den (.int .u8)) → Option β) : Option β := (F45 k a1 1 4).bind fun b1 => cond (!b1) (RET []) (cond (decide ((IntKind.i64.wrap (8 * a1)) < 0)) none ((F45 k a0 0 (IntKind.i64.wrap ((IntKind.i64.wrap (1 * 2 ^ (min (IntKind.i64.wrap (8 * a1)).toNat 64))) - 1))).bind fun b2 => cond (!b2) (RET []) ((F91 k a0 a1).bind fun b3 => RET b3)))
def F58 (k : Nat) (a0 a1 : Int) : Option (List (den (.int .u8))) := F58_T k a0 a1 some
theorem F58_st {β : Type} (k : Nat) (a0 a1 : Int) (K : A × List (List Leaf) → Option β) : evalF (F58_E k) Try.f58 (F58_a a0 a1) K =
    F58_T k a0 a1 (fun r => K (F58_r r)) := by kernel_rfl
theorem F58_ev {β : Type} (k : Nat) (a0 a1 : Int) (K : A × List (List Leaf) → Option β) : evalF (F58_E k) Try.f58 (F58_a a0 a1) K = (F58 k a0 a1).bind fun r => K (F58_r r) := by
  rw [F58_st, F58]
  simp only [F58_T, bind_cond, Option.bind_assoc, Option.bind_some, Option.bind_none, Option.bind_fun_some]
theorem F58_tOk (k : Nat) : TabFn Try.prog (F58_t k) := .ent (F45_q k) F45_f (.ent (F91_q k) F91_f (.none))
theorem F58_con (k : Nat) (a0 a1 : Int) : Contract Try.prog 58 (F58_a a0 a1) ⟨F58 k a0 a1, F58_r⟩ := con_of (envOk (F58_tOk k) _ _ _ _) mixed Try.func58 rfl rfl (F58_ev k a0 a1 some)
def F58_sh : List AK := [.one (.l (.int .i64)), .one (.l (.int .i64))]
def F58_p (k : Nat) : List Arg → Option CR := cle F58_sh fun x => ⟨F58 k x.1 x.2.1, F58_r⟩
theorem F58_q (k : Nat) : ∀ xs cr, F58_p k xs = some cr → Contract Try.prog 58 xs cr := cle_ok fun x => F58_con k _ _
theorem F58_f : FnOk Try.prog 58 := .of (by kernel_rfl)
/-! 15: loop.example/netstack/laws.alive -/
def F15_t (k : Nat) : Tab := entT 58 (F58_p k) <| noTab
abbrev F15_E (k : Nat) : Env := env (F15_t k) noHint .own [] k
abbrev F15_a : List Arg := []
def F15_r (r : Bool) : A × List (List Leaf) := (.one (.v (.bool r)), [])
def F15_T {β : Type} (k : Nat) (RET : Bool → Option β) : Option β := (F58 k 5 1).bind fun b1 => cond (((b1.length : Nat) : Int) == 1) ((F58 k 256 1).bind fun b2 => RET (((b2.length : Nat) : Int) == 0)) (RET false)
def F15 (k : Nat) : Option (Bool) := F15_T k some
theorem F15_st {β : Type} (k : Nat) (K : A × List (List Leaf) → Option β) : evalF (F15_E k) Try.f15 (F15_a) K =
    F15_T k (fun r => K (F15_r r)) := by kernel_rfl
theorem F15_ev {β : Type} (k : Nat) (K : A × List (List Leaf) → Option β) : evalF (F15_E k) Try.f15 (F15_a) K = (F15 k).bind fun r => K (F15_r r) := by
  rw [F15_st, F15]
  simp only [F15_T, bind_cond, Option.bind_assoc, Option.bind_some, Option.bind_none, Option.bind_fun_some]
theorem F15_tOk (k : Nat) : TabFn Try.prog (F15_t k) := .ent (F58_q k) F58_f (.none)
theorem F15_con (k : Nat) : Contract Try.prog 15 (F15_a) ⟨F15 k, F15_r⟩ := con_of (envOk (F15_tOk k) _ _ _ _) mixed Try.func15 rfl rfl (F15_ev k some)
def F15_sh : List AK := []
def F15_p (k : Nat) : List Arg → Option CR := cle F15_sh fun x => ⟨F15 k, F15_r⟩
theorem F15_q (k : Nat) : ∀ xs cr, F15_p k xs = some cr → Contract Try.prog 15 xs cr := cle_ok fun x => F15_con k
theorem F15_f : FnOk Try.prog 15 := .of (by kernel_rfl)
/-! 49: slices.Clip[[]loop.example/netstack/impl.Segment,loop.example/netstack/impl.Segment] -/
abbrev F49_E (k : Nat) : Env := env noTab noHint .own [] k
abbrev F49_a (a0 : List (den seg)) : List Arg := [.one (.l (.s .own seg a0))]
def F49_r (r : List (den seg)) : A × List (List Leaf) := (.one (.s .own seg r), [])
def F49_T {β : Type} (k : Nat) (a0 : List (den seg)) (RET : List (den seg) → Option β) : Option β := cond (decide (0 ≤ ((a0.length : Nat) : Int)) && decide (((a0.length : Nat) : Int) ≤ ((a0.length : Nat) : Int))) (cond (decide (((a0.length : Nat) : Int) = ((a0.length : Nat) : Int))) (RET ((a0.take (((a0.length : Nat) : Int).toNat)).drop 0)) none) none
def F49 (k : Nat) (a0 : List (den seg)) : Option (List (den seg)) := F49_T k a0 some
theorem F49_st {β : Type} (k : Nat) (a0 : List (den seg)) (K : A × List (List Leaf) → Option β) : evalF (F49_E k) Try.f49 (F49_a a0) K =
    F49_T k a0 (fun r => K (F49_r r)) := by kernel_rfl
theorem F49_ev {β : Type} (k : Nat) (a0 : List (den seg)) (K : A × List (List Leaf) → Option β) : evalF (F49_E k) Try.f49 (F49_a a0) K = (F49 k a0).bind fun r => K (F49_r r) := by
  rw [F49_st, F49]
  simp only [F49_T, bind_cond, Option.bind_assoc, Option.bind_some, Option.bind_none, Option.bind_fun_some]
theorem F49_con (k : Nat) (a0 : List (den seg)) : Contract Try.prog 49 (F49_a a0) ⟨F49 k a0, F49_r⟩ := con_of (envOk .none _ _ _ _) mixed Try.func49 rfl rfl (F49_ev k a0 some)
def F49_sh : List AK := [.one (.l (.sl .own seg))]
def F49_p (k : Nat) : List Arg → Option CR := cle F49_sh fun x => ⟨F49 k x.1, F49_r⟩
theorem F49_q (k : Nat) : ∀ xs cr, F49_p k xs = some cr → Contract Try.prog 49 xs cr := cle_ok fun x => F49_con k _
theorem F49_f : FnOk Try.prog 49 := .of (by kernel_rfl)
/-! 11: loop.example/netstack/impl.SegmentCut -/
def F11_h : Nat → Hint
  | 0 => ⟨[(2, .plain), (5, .plain), (6, .plain)], [(2000, .plain), (2001, .plain), (2002, .plain), (2003, .plain), (2004, .plain), (2005, .plain), (2006, .plain), (2007, .plain), (2008, .plain), (2009, .plain), (2010, .plain), (5000, .own .own seg []), (6000, .plain)]⟩
  | _ => ⟨[], []⟩
def F11_t (k : Nat) : Tab := entT 14 (F14_p k) <| entT 45 (F45_p k) <| entT 46 (F46_p k) <| entT 48 (F48_p k) <| entT 16 (F16_p k) <| entT 49 (F49_p k) <| noTab
abbrev F11_E (k : Nat) : Env := env (F11_t k) F11_h .own [] k
abbrev F11_a (a0_0 a0_1 a0_2 a0_3 a0_4 : Int) (a0_5 a0_6 a0_7 a0_8 : Bool) (a0_9 : List (den rng)) (a0_10 : List (den (.int .u8))) (a1 : Int) : List Arg := [.agg [.l (.v (.int .i64 a0_0)), .l (.v (.int .i64 a0_1)), .l (.v (.int .i64 a0_2)), .l (.v (.int .i64 a0_3)), .l (.v (.int .i64 a0_4)), .l (.v (.bool a0_5)), .l (.v (.bool a0_6)), .l (.v (.bool a0_7)), .l (.v (.bool a0_8)), .l (.s .ro rng a0_9), .l (.s .ro (.int .u8) a0_10)], .one (.l (.v (.int .i64 a1)))]
def F11_r (r : List (den seg)) : A × List (List Leaf) := (.one (.s .own seg r), [])
def F11_s0 (a0_0 a0_1 a0_2 a0_3 a0_4 : Int) (a0_5 a0_6 a0_7 a0_8 : Bool) (a0_9 : List (den rng)) (a0_10 : List (den (.int .u8))) (a1 : Int) (m5000_0 : List (den seg)) (m6000_0 : Int) : St := ⟨(.one .d) :: (.one .d) :: (.one (.ptr (.cell 2000) 11 0)) :: (.one .d) :: (.one .d) :: (.one (.ptr (.cell 5000) 1 0)) :: (.one (.ptr (.cell 6000) 1 0)) :: dz 59 [], [(2000, ⟨.v (.int .i64 a0_0), 0, 0⟩), (2001, ⟨.v (.int .i64 a0_1), 0, 0⟩), (2002, ⟨.v (.int .i64 a0_2), 0, 0⟩), (2003, ⟨.v (.int .i64 a0_3), 0, 0⟩), (2004, ⟨.v (.int .i64 a0_4), 0, 0⟩), (2005, ⟨.v (.bool a0_5), 0, 0⟩), (2006, ⟨.v (.bool a0_6), 0, 0⟩), (2007, ⟨.v (.bool a0_7), 0, 0⟩), (2008, ⟨.v (.bool a0_8), 0, 0⟩), (2009, ⟨.s .ro rng a0_9, 0, 0⟩), (2010, ⟨.s .ro (.int .u8) a0_10, 0, 0⟩), (5000, ⟨.s .own seg m5000_0, 0, 0⟩), (6000, ⟨.v (.int .i64 m6000_0), 0, 0⟩)]⟩
def F11_l0 (k : Nat) (a0_0 a0_1 a0_2 a0_3 a0_4 : Int) (a0_5 a0_6 a0_7 a0_8 : Bool) (a0_9 : List (den rng)) (a0_10 : List (den (.int .u8))) (a1 : Int) : List (List (den (.int .u8))) → List (den seg) → Int → Option (List (den seg))
  | [], m5000_0, m6000_0 => cond (decide (0 ≤ (IntKind.i64.wrap (((m5000_0.length : Nat) : Int) - 1)))) (cond (decide ((IntKind.i64.wrap (((m5000_0.length : Nat) : Int) - 1)) < ((m5000_0.length : Nat) : Int))) ((sto (m5000_0.set ((IntKind.i64.wrap (((m5000_0.length : Nat) : Int) - 1)).toNat) ((atI m5000_0 (IntKind.i64.wrap (((m5000_0.length : Nat) : Int) - 1))).1, ((atI m5000_0 (IntKind.i64.wrap (((m5000_0.length : Nat) : Int) - 1))).2).1, (((atI m5000_0 (IntKind.i64.wrap (((m5000_0.length : Nat) : Int) - 1))).2).2).1, ((((atI m5000_0 (IntKind.i64.wrap (((m5000_0.length : Nat) : Int) - 1))).2).2).2).1, (((((atI m5000_0 (IntKind.i64.wrap (((m5000_0.length : Nat) : Int) - 1))).2).2).2).2).1, ((((((atI m5000_0 (IntKind.i64.wrap (((m5000_0.length : Nat) : Int) - 1))).2).2).2).2).2).1, (((((((atI m5000_0 (IntKind.i64.wrap (((m5000_0.length : Nat) : Int) - 1))).2).2).2).2).2).2).1, a0_7, (((((((((atI m5000_0 (IntKind.i64.wrap (((m5000_0.length : Nat) : Int) - 1))).2).2).2).2).2).2).2).2).1, ((((((((((atI m5000_0 (IntKind.i64.wrap (((m5000_0.length : Nat) : Int) - 1))).2).2).2).2).2).2).2).2).2)))).bind fun b9 => (F49 k b9).bind fun b10 => some b10) none) none
  | z0_0 :: r, m5000_0, m6000_0 => (F48 k m6000_0).bind fun b4 => cond a0_5 ((F16 k a0_0 a0_1 b4 a0_3 a0_4 (((m5000_0.length : Nat) : Int) == 0) a0_6 false a0_8 a0_9 z0_0).bind fun b5 => (F46 k a0_0 a0_1 b4 a0_3 a0_4 (((m5000_0.length : Nat) : Int) == 0) a0_6 false a0_8 a0_9 z0_0).bind fun b6 => cond (decide ((m5000_0.length + [b6].length) * 96 ≤ 140737488355328)) (F11_l0 k a0_0 a0_1 a0_2 a0_3 a0_4 a0_5 a0_6 a0_7 a0_8 a0_9 a0_10 a1 r (m5000_0 ++ [b6]) (IntKind.i64.wrap (m6000_0 + b5))) none) ((F16 k a0_0 a0_1 b4 a0_3 a0_4 false a0_6 false a0_8 a0_9 z0_0).bind fun b7 => (F46 k a0_0 a0_1 b4 a0_3 a0_4 false a0_6 false a0_8 a0_9 z0_0).bind fun b8 => cond (decide ((m5000_0.length + [b8].length) * 96 ≤ 140737488355328)) (F11_l0 k a0_0 a0_1 a0_2 a0_3 a0_4 a0_5 a0_6 a0_7 a0_8 a0_9 a0_10 a1 r (m5000_0 ++ [b8]) (IntKind.i64.wrap (m6000_0 + b7))) none)
theorem F11_l0_r0 {β : Type} (k : Nat) (a0_0 a0_1 a0_2 a0_3 a0_4 : Int) (a0_5 a0_6 a0_7 a0_8 : Bool) (a0_9 : List (den rng)) (a0_10 : List (den (.int .u8))) (a1 : Int) (m5000_0 : List (den seg)) (m6000_0 : Int) (K : A × List (List Leaf) → Option β) :
    rangeG (F11_E k) Try.f11 [1, 1, 1, 1, 1, 0, 1, 0] 0 31 (kontAt (F11_E k) [1, 1, 1, 1, 1, 0, 1, 0] (bodyOf Try.f11) 0 (endC (F11_E k) Try.f11 (F11_a a0_0 a0_1 a0_2 a0_3 a0_4 a0_5 a0_6 a0_7 a0_8 a0_9 a0_10 a1) K)) ([] : List (List (den (.int .u8)))) (F11_s0 a0_0 a0_1 a0_2 a0_3 a0_4 a0_5 a0_6 a0_7 a0_8 a0_9 a0_10 a1 m5000_0 m6000_0) =
    cond (decide (0 ≤ (IntKind.i64.wrap (((m5000_0.length : Nat) : Int) - 1)))) (cond (decide ((IntKind.i64.wrap (((m5000_0.length : Nat) : Int) - 1)) < ((m5000_0.length : Nat) : Int))) ((sto (m5000_0.set ((IntKind.i64.wrap (((m5000_0.length : Nat) : Int) - 1)).toNat) ((atI m5000_0 (IntKind.i64.wrap (((m5000_0.length : Nat) : Int) - 1))).1, ((atI m5000_0 (IntKind.i64.wrap (((m5000_0.length : Nat) : Int) - 1))).2).1, (((atI m5000_0 (IntKind.i64.wrap (((m5000_0.length : Nat) : Int) - 1))).2).2).1, ((((atI m5000_0 (IntKind.i64.wrap (((m5000_0.length : Nat) : Int) - 1))).2).2).2).1, (((((atI m5000_0 (IntKind.i64.wrap (((m5000_0.length : Nat) : Int) - 1))).2).2).2).2).1, ((((((atI m5000_0 (IntKind.i64.wrap (((m5000_0.length : Nat) : Int) - 1))).2).2).2).2).2).1, (((((((atI m5000_0 (IntKind.i64.wrap (((m5000_0.length : Nat) : Int) - 1))).2).2).2).2).2).2).1, a0_7, (((((((((atI m5000_0 (IntKind.i64.wrap (((m5000_0.length : Nat) : Int) - 1))).2).2).2).2).2).2).2).2).1, ((((((((((atI m5000_0 (IntKind.i64.wrap (((m5000_0.length : Nat) : Int) - 1))).2).2).2).2).2).2).2).2).2)))).bind fun b9 => (F49 k b9).bind fun b10 => K (.one (.s .own seg b10), [])) none) none := by kernel_rfl
theorem F11_l0_rd {β : Type} (k : Nat) (a0_0 a0_1 a0_2 a0_3 a0_4 : Int) (a0_5 a0_6 a0_7 a0_8 : Bool) (a0_9 : List (den rng)) (a0_10 : List (den (.int .u8))) (a1 : Int) (z0_0 : List (den (.int .u8))) (r : List (List (den (.int .u8)))) (m5000_0 : List (den seg)) (m6000_0 : Int) (K : A × List (List Leaf) → Option β) :
    rangeG (F11_E k) Try.f11 [1, 1, 1, 1, 1, 0, 1, 0] 0 31 (kontAt (F11_E k) [1, 1, 1, 1, 1, 0, 1, 0] (bodyOf Try.f11) 0 (endC (F11_E k) Try.f11 (F11_a a0_0 a0_1 a0_2 a0_3 a0_4 a0_5 a0_6 a0_7 a0_8 a0_9 a0_10 a1) K)) (z0_0 :: r) (F11_s0 a0_0 a0_1 a0_2 a0_3 a0_4 a0_5 a0_6 a0_7 a0_8 a0_9 a0_10 a1 m5000_0 m6000_0) =
    (F48 k m6000_0).bind fun b4 => cond a0_5 ((F16 k a0_0 a0_1 b4 a0_3 a0_4 (((m5000_0.length : Nat) : Int) == 0) a0_6 false a0_8 a0_9 z0_0).bind fun b5 => (F46 k a0_0 a0_1 b4 a0_3 a0_4 (((m5000_0.length : Nat) : Int) == 0) a0_6 false a0_8 a0_9 z0_0).bind fun b6 => cond (decide ((m5000_0.length + [b6].length) * 96 ≤ 140737488355328)) (rangeG (F11_E k) Try.f11 [1, 1, 1, 1, 1, 0, 1, 0] 0 31 (kontAt (F11_E k) [1, 1, 1, 1, 1, 0, 1, 0] (bodyOf Try.f11) 0 (endC (F11_E k) Try.f11 (F11_a a0_0 a0_1 a0_2 a0_3 a0_4 a0_5 a0_6 a0_7 a0_8 a0_9 a0_10 a1) K)) r (F11_s0 a0_0 a0_1 a0_2 a0_3 a0_4 a0_5 a0_6 a0_7 a0_8 a0_9 a0_10 a1 (m5000_0 ++ [b6]) (IntKind.i64.wrap (m6000_0 + b5)))) none) ((F16 k a0_0 a0_1 b4 a0_3 a0_4 false a0_6 false a0_8 a0_9 z0_0).bind fun b7 => (F46 k a0_0 a0_1 b4 a0_3 a0_4 false a0_6 false a0_8 a0_9 z0_0).bind fun b8 => cond (decide ((m5000_0.length + [b8].length) * 96 ≤ 140737488355328)) (rangeG (F11_E k) Try.f11 [1, 1, 1, 1, 1, 0, 1, 0] 0 31 (kontAt (F11_E k) [1, 1, 1, 1, 1, 0, 1, 0] (bodyOf Try.f11) 0 (endC (F11_E k) Try.f11 (F11_a a0_0 a0_1 a0_2 a0_3 a0_4 a0_5 a0_6 a0_7 a0_8 a0_9 a0_10 a1) K)) r (F11_s0 a0_0 a0_1 a0_2 a0_3 a0_4 a0_5 a0_6 a0_7 a0_8 a0_9 a0_10 a1 (m5000_0 ++ [b8]) (IntKind.i64.wrap (m6000_0 + b7)))) none) := by kernel_rfl
theorem F11_l0_lp {β : Type} (k : Nat) (a0_0 a0_1 a0_2 a0_3 a0_4 : Int) (a0_5 a0_6 a0_7 a0_8 : Bool) (a0_9 : List (den rng)) (a0_10 : List (den (.int .u8))) (a1 : Int) (K : A × List (List Leaf) → Option β) (l : List (List (den (.int .u8)))) : ∀ (m5000_0 : List (den seg)) (m6000_0 : Int), rangeG (F11_E k) Try.f11 [1, 1, 1, 1, 1, 0, 1, 0] 0 31 (kontAt (F11_E k) [1, 1, 1, 1, 1, 0, 1, 0] (bodyOf Try.f11) 0 (endC (F11_E k) Try.f11 (F11_a a0_0 a0_1 a0_2 a0_3 a0_4 a0_5 a0_6 a0_7 a0_8 a0_9 a0_10 a1) K)) l (F11_s0 a0_0 a0_1 a0_2 a0_3 a0_4 a0_5 a0_6 a0_7 a0_8 a0_9 a0_10 a1 m5000_0 m6000_0) =
    (F11_l0 k a0_0 a0_1 a0_2 a0_3 a0_4 a0_5 a0_6 a0_7 a0_8 a0_9 a0_10 a1 l m5000_0 m6000_0).bind fun r => K (F11_r r) := by
  induction l with
  | nil => intros; rw [F11_l0_r0, F11_l0]; simp only [F11_r, bind_cond, Option.bind_assoc, Option.bind_some, Option.bind_none, Option.bind_fun_some]
  | cons z r ih =>
    intros
    rw [F11_l0_rd, F11_l0]
    simp only [F11_r, bind_cond, Option.bind_assoc, Option.bind_some, Option.bind_none, Option.bind_fun_some, ih]
def F11 (k : Nat) (a0_0 a0_1 a0_2 a0_3 a0_4 : Int) (a0_5 a0_6 a0_7 a0_8 : Bool) (a0_9 : List (den rng)) (a0_10 : List (den (.int .u8))) (a1 : Int) : Option (List (den seg)) := (F14 k a0_0 a0_1 a0_2 a0_3 a0_4 a0_5 a0_6 a0_7 a0_8 a0_9 a0_10).bind fun b1 => cond (!b1) (some []) ((F45 k a1 1 12).bind fun b2 => cond (!b2) (some []) (cond (decide (((a0_10.length : Nat) : Int) ≤ a1)) ((F46 k a0_0 a0_1 a0_2 a0_3 a0_4 a0_5 a0_6 a0_7 a0_8 a0_9 a0_10).bind fun b3 => some [b3]) (cond (decide (1 ≤ a1) && decide (a1 ≤ 9223372036854775807) && decide (a0_10.length ≤ 140737488355328)) (F11_l0 k a0_0 a0_1 a0_2 a0_3 a0_4 a0_5 a0_6 a0_7 a0_8 a0_9 a0_10 a1 (pieces ((a1 : Int).toNat) a0_10) [] a0_2) none)))
theorem F11_st {β : Type} (k : Nat) (a0_0 a0_1 a0_2 a0_3 a0_4 : Int) (a0_5 a0_6 a0_7 a0_8 : Bool) (a0_9 : List (den rng)) (a0_10 : List (den (.int .u8))) (a1 : Int) (K : A × List (List Leaf) → Option β) : evalF (F11_E k) Try.f11 (F11_a a0_0 a0_1 a0_2 a0_3 a0_4 a0_5 a0_6 a0_7 a0_8 a0_9 a0_10 a1) K =
    (F14 k a0_0 a0_1 a0_2 a0_3 a0_4 a0_5 a0_6 a0_7 a0_8 a0_9 a0_10).bind fun b1 => cond (!b1) (K (.one (.s .own seg []), [])) ((F45 k a1 1 12).bind fun b2 => cond (!b2) (K (.one (.s .own seg []), [])) (cond (decide (((a0_10.length : Nat) : Int) ≤ a1)) ((F46 k a0_0 a0_1 a0_2 a0_3 a0_4 a0_5 a0_6 a0_7 a0_8 a0_9 a0_10).bind fun b3 => K (.one (.s .own seg [b3]), [])) (cond (decide (1 ≤ a1) && decide (a1 ≤ 9223372036854775807) && decide (a0_10.length ≤ 140737488355328)) (rangeG (F11_E k) Try.f11 [1, 1, 1, 1, 1, 0, 1, 0] 0 31 (kontAt (F11_E k) [1, 1, 1, 1, 1, 0, 1, 0] (bodyOf Try.f11) 0 (endC (F11_E k) Try.f11 (F11_a a0_0 a0_1 a0_2 a0_3 a0_4 a0_5 a0_6 a0_7 a0_8 a0_9 a0_10 a1) K)) (pieces ((a1 : Int).toNat) a0_10) (F11_s0 a0_0 a0_1 a0_2 a0_3 a0_4 a0_5 a0_6 a0_7 a0_8 a0_9 a0_10 a1 [] a0_2)) none))) := by kernel_rfl
theorem F11_ev {β : Type} (k : Nat) (a0_0 a0_1 a0_2 a0_3 a0_4 : Int) (a0_5 a0_6 a0_7 a0_8 : Bool) (a0_9 : List (den rng)) (a0_10 : List (den (.int .u8))) (a1 : Int) (K : A × List (List Leaf) → Option β) : evalF (F11_E k) Try.f11 (F11_a a0_0 a0_1 a0_2 a0_3 a0_4 a0_5 a0_6 a0_7 a0_8 a0_9 a0_10 a1) K = (F11 k a0_0 a0_1 a0_2 a0_3 a0_4 a0_5 a0_6 a0_7 a0_8 a0_9 a0_10 a1).bind fun r => K (F11_r r) := by
  rw [F11_st, F11]
  simp only [F11_r, bind_cond, Option.bind_assoc, Option.bind_some, Option.bind_none, Option.bind_fun_some, F11_l0_lp]
theorem F11_tOk (k : Nat) : TabFn Try.prog (F11_t k) := .ent (F14_q k) F14_f (.ent (F45_q k) F45_f (.ent (F46_q k) F46_f (.ent (F48_q k) F48_f (.ent (F16_q k) F16_f (.ent (F49_q k) F49_f (.none))))))
theorem F11_con (k : Nat) (a0_0 a0_1 a0_2 a0_3 a0_4 : Int) (a0_5 a0_6 a0_7 a0_8 : Bool) (a0_9 : List (den rng)) (a0_10 : List (den (.int .u8))) (a1 : Int) : Contract Try.prog 11 (F11_a a0_0 a0_1 a0_2 a0_3 a0_4 a0_5 a0_6 a0_7 a0_8 a0_9 a0_10 a1) ⟨F11 k a0_0 a0_1 a0_2 a0_3 a0_4 a0_5 a0_6 a0_7 a0_8 a0_9 a0_10 a1, F11_r⟩ := con_of (envOk (F11_tOk k) _ _ _ _) mixed Try.func11 rfl rfl (F11_ev k a0_0 a0_1 a0_2 a0_3 a0_4 a0_5 a0_6 a0_7 a0_8 a0_9 a0_10 a1 some)
def F11_sh : List AK := [.agg [.l (.int .i64), .l (.int .i64), .l (.int .i64), .l (.int .i64), .l (.int .i64), .l (.bool), .l (.bool), .l (.bool), .l (.bool), .l (.sl .ro rng), .l (.sl .ro (.int .u8))], .one (.l (.int .i64))]
def F11_p (k : Nat) : List Arg → Option CR := cle F11_sh fun x => ⟨F11 k x.1.1 x.1.2.1 x.1.2.2.1 x.1.2.2.2.1 x.1.2.2.2.2.1 x.1.2.2.2.2.2.1 x.1.2.2.2.2.2.2.1 x.1.2.2.2.2.2.2.2.1 x.1.2.2.2.2.2.2.2.2.1 x.1.2.2.2.2.2.2.2.2.2.1 x.1.2.2.2.2.2.2.2.2.2.2.1 x.2.1, F11_r⟩
theorem F11_q (k : Nat) : ∀ xs cr, F11_p k xs = some cr → Contract Try.prog 11 xs cr := cle_ok fun x => F11_con k _ _ _ _ _ _ _ _ _ _ _ _
theorem F11_f : FnOk Try.prog 11 := .of (by kernel_rfl)
/-! 12: loop.example/netstack/laws.sameSegments -/
def F12_h : Nat → Hint
  | 0 => ⟨[(0, .plain), (1, .plain), (5, .plain)], []⟩
  | _ => ⟨[], []⟩
def F12_t (k : Nat) : Tab := entT 18 (F18_p k) <| noTab
abbrev F12_E (k : Nat) : Env := env (F12_t k) F12_h .own [] k
abbrev F12_a (a0 a1 : List (den seg)) : List Arg := [.one (.l (.s .ro seg a0)), .one (.l (.s .ro seg a1))]
def F12_r (r : Bool) : A × List (List Leaf) := (.one (.v (.bool r)), [])
def F12_s0 (a0 a1 : List (den seg)) (x5_0 : Int) : St := ⟨(.one (.s .ro seg a0)) :: (.one (.s .ro seg a1)) :: dz 3 ((.one (.v (.int .i64 x5_0))) :: dz 21 []), []⟩
def F12_l0_T {β : Type} (k : Nat) (a0 a1 : List (den seg)) (NX : Int → Option β) (RET : Bool → Option β) (x5_0 : Int) : Option β := cond (decide (x5_0 < ((a0.length : Nat) : Int))) (cond (decide (0 ≤ x5_0)) (cond (decide (x5_0 < ((a0.length : Nat) : Int))) (cond (decide (0 ≤ x5_0)) (cond (decide (x5_0 < ((a1.length : Nat) : Int))) ((F18 k ((atI a0 x5_0).1) (((atI a0 x5_0).2).1) ((((atI a0 x5_0).2).2).1) (((((atI a0 x5_0).2).2).2).1) ((((((atI a0 x5_0).2).2).2).2).1) (((((((atI a0 x5_0).2).2).2).2).2).1) ((((((((atI a0 x5_0).2).2).2).2).2).2).1) (((((((((atI a0 x5_0).2).2).2).2).2).2).2).1) ((((((((((atI a0 x5_0).2).2).2).2).2).2).2).2).1) (((((((((((atI a0 x5_0).2).2).2).2).2).2).2).2).2).1) (((((((((((atI a0 x5_0).2).2).2).2).2).2).2).2).2).2) ((atI a1 x5_0).1) (((atI a1 x5_0).2).1) ((((atI a1 x5_0).2).2).1) (((((atI a1 x5_0).2).2).2).1) ((((((atI a1 x5_0).2).2).2).2).1) (((((((atI a1 x5_0).2).2).2).2).2).1) ((((((((atI a1 x5_0).2).2).2).2).2).2).1) (((((((((atI a1 x5_0).2).2).2).2).2).2).2).1) ((((((((((atI a1 x5_0).2).2).2).2).2).2).2).2).1) (((((((((((atI a1 x5_0).2).2).2).2).2).2).2).2).2).1) (((((((((((atI a1 x5_0).2).2).2).2).2).2).2).2).2).2)).bind fun b1 => cond (!b1) (RET false) (NX (IntKind.i64.wrap (x5_0 + 1)))) none) none) none) none) (RET true)
def F12_l0 (k : Nat) (a0 a1 : List (den seg)) : Nat → Int → Option (Bool)
  | 0, _ => none
  | n + 1, x5_0 => F12_l0_T k a0 a1 (fun x5_0 => F12_l0 k a0 a1 n x5_0) some x5_0
theorem F12_l0_rd {β : Type} (k n : Nat) (a0 a1 : List (den seg)) (x5_0 : Int) (K : A × List (List Leaf) → Option β) :
    loopG (F12_E k) Try.f12 [1, 1, 0, 1, 0] 0 (kontAt (F12_E k) [1, 1, 0, 1, 0] (bodyOf Try.f12) 0 (endC (F12_E k) Try.f12 (F12_a a0 a1) K)) (n + 1) (F12_s0 a0 a1 x5_0) =
    F12_l0_T k a0 a1 (fun x5_0 => loopG (F12_E k) Try.f12 [1, 1, 0, 1, 0] 0 (kontAt (F12_E k) [1, 1, 0, 1, 0] (bodyOf Try.f12) 0 (endC (F12_E k) Try.f12 (F12_a a0 a1) K)) n (F12_s0 a0 a1 x5_0)) (fun r => K (F12_r r)) x5_0 := by kernel_rfl
theorem F12_l0_lp {β : Type} (k : Nat) (a0 a1 : List (den seg)) (K : A × List (List Leaf) → Option β) (n : Nat) : ∀ (x5_0 : Int), loopG (F12_E k) Try.f12 [1, 1, 0, 1, 0] 0 (kontAt (F12_E k) [1, 1, 0, 1, 0] (bodyOf Try.f12) 0 (endC (F12_E k) Try.f12 (F12_a a0 a1) K)) n (F12_s0 a0 a1 x5_0) =
    (F12_l0 k a0 a1 n x5_0).bind fun r => K (F12_r r) := by
  induction n with
  | zero => intros; rfl
  | succ n ih =>
    intros
    rw [F12_l0_rd, F12_l0]
    simp only [F12_l0_T, bind_cond, Option.bind_assoc, Option.bind_some, Option.bind_none, Option.bind_fun_some, ih]
def F12_T {β : Type} (k : Nat) (a0 a1 : List (den seg)) (LP0 : Int → Option β) (RET : Bool → Option β) : Option β := cond (((a0.length : Nat) : Int) != ((a1.length : Nat) : Int)) (RET false) (LP0 0)
def F12 (k : Nat) (a0 a1 : List (den seg)) : Option (Bool) := F12_T k a0 a1 (fun x5_0 => F12_l0 k a0 a1 k x5_0) some
theorem F12_st {β : Type} (k : Nat) (a0 a1 : List (den seg)) (K : A × List (List Leaf) → Option β) : evalF (F12_E k) Try.f12 (F12_a a0 a1) K =
    F12_T k a0 a1 (fun x5_0 => loopG (F12_E k) Try.f12 [1, 1, 0, 1, 0] 0 (kontAt (F12_E k) [1, 1, 0, 1, 0] (bodyOf Try.f12) 0 (endC (F12_E k) Try.f12 (F12_a a0 a1) K)) k (F12_s0 a0 a1 x5_0)) (fun r => K (F12_r r)) := by kernel_rfl
theorem F12_ev {β : Type} (k : Nat) (a0 a1 : List (den seg)) (K : A × List (List Leaf) → Option β) : evalF (F12_E k) Try.f12 (F12_a a0 a1) K = (F12 k a0 a1).bind fun r => K (F12_r r) := by
  rw [F12_st, F12]
  simp only [F12_T, bind_cond, Option.bind_assoc, Option.bind_some, Option.bind_none, Option.bind_fun_some, F12_l0_lp]
theorem F12_tOk (k : Nat) : TabFn Try.prog (F12_t k) := .ent (F18_q k) F18_f (.none)
theorem F12_con (k : Nat) (a0 a1 : List (den seg)) : Contract Try.prog 12 (F12_a a0 a1) ⟨F12 k a0 a1, F12_r⟩ := con_of (envOk (F12_tOk k) _ _ _ _) mixed Try.func12 rfl rfl (F12_ev k a0 a1 some)
def F12_sh : List AK := [.one (.l (.sl .ro seg)), .one (.l (.sl .ro seg))]
def F12_p (k : Nat) : List Arg → Option CR := cle F12_sh fun x => ⟨F12 k x.1 x.2.1, F12_r⟩
theorem F12_q (k : Nat) : ∀ xs cr, F12_p k xs = some cr → Contract Try.prog 12 xs cr := cle_ok fun x => F12_con k _ _
theorem F12_f : FnOk Try.prog 12 := .of (by kernel_rfl)
/-! 4: loop.example/netstack/laws.FnSegmentJoin -/
def F4_t (k : Nat) : Tab := entT 19 (F19_p k) <| entT 20 (F20_p k) <| entT 21 (F21_p k) <| entT 18 (F18_p k) <| entT 15 (F15_p k) <| entT 11 (F11_p k) <| entT 14 (F14_p k) <| entT 16 (F16_p k) <| entT 12 (F12_p k) <| noTab
abbrev F4_E (k : Nat) : Env := env (F4_t k) noHint .own [] k
abbrev F4_a (a0 : List (den (.int .u8))) : List Arg := [.one (.l (.s .ro (.int .u8) a0))]
def F4_r (r : Bool) : A × List (List Leaf) := (.one (.v (.bool r)), [])
def F4_T {β : Type} (k : Nat) (a0 : List (den (.int .u8))) (RET : Bool → Option β) : Option β := cond (decide (((a0.length : Nat) : Int) > 1048576)) (RET true) ((F19 k a0).bind fun b1 => (F20 k b1.1 b1.2.1 b1.2.2.1 b1.2.2.2.1 b1.2.2.2.2.1 b1.2.2.2.2.2.1 b1.2.2.2.2.2.2.1 b1.2.2.2.2.2.2.2.1 b1.2.2.2.2.2.2.2.2.1 b1.2.2.2.2.2.2.2.2.2.1 b1.2.2.2.2.2.2.2.2.2.2.1 b1.2.2.2.2.2.2.2.2.2.2.2.1 b1.2.2.2.2.2.2.2.2.2.2.2.2.1 b1.2.2.2.2.2.2.2.2.2.2.2.2.2.1 b1.2.2.2.2.2.2.2.2.2.2.2.2.2.2.1 b1.2.2.2.2.2.2.2.2.2.2.2.2.2.2.2.1 b1.2.2.2.2.2.2.2.2.2.2.2.2.2.2.2.2.1 b1.2.2.2.2.2.2.2.2.2.2.2.2.2.2.2.2.2.1 b1.2.2.2.2.2.2.2.2.2.2.2.2.2.2.2.2.2.2.1 b1.2.2.2.2.2.2.2.2.2.2.2.2.2.2.2.2.2.2.2.1 b1.2.2.2.2.2.2.2.2.2.2.2.2.2.2.2.2.2.2.2.2.1 b1.2.2.2.2.2.2.2.2.2.2.2.2.2.2.2.2.2.2.2.2.2).bind fun b2 => (F21 k b1.1 b1.2.1 b1.2.2.1 b1.2.2.2.1 b1.2.2.2.2.1 b1.2.2.2.2.2.1 b1.2.2.2.2.2.2.1 b1.2.2.2.2.2.2.2.1 b1.2.2.2.2.2.2.2.2.1 b1.2.2.2.2.2.2.2.2.2.1 b1.2.2.2.2.2.2.2.2.2.2.1 b1.2.2.2.2.2.2.2.2.2.2.2.1 b1.2.2.2.2.2.2.2.2.2.2.2.2.1 b1.2.2.2.2.2.2.2.2.2.2.2.2.2.1 b1.2.2.2.2.2.2.2.2.2.2.2.2.2.2.1 b1.2.2.2.2.2.2.2.2.2.2.2.2.2.2.2.1 b1.2.2.2.2.2.2.2.2.2.2.2.2.2.2.2.2.1 b1.2.2.2.2.2.2.2.2.2.2.2.2.2.2.2.2.2.1 b1.2.2.2.2.2.2.2.2.2.2.2.2.2.2.2.2.2.2.1 b1.2.2.2.2.2.2.2.2.2.2.2.2.2.2.2.2.2.2.2.1 b1.2.2.2.2.2.2.2.2.2.2.2.2.2.2.2.2.2.2.2.2.1 b1.2.2.2.2.2.2.2.2.2.2.2.2.2.2.2.2.2.2.2.2.2).bind fun b3 => cond (!(b2.2.2.2.2.2.2.2.2.2.2.2 == b3.2.2.2.2.2.2.2.2.2.2.2)) (RET false) ((F18 k b2.1 b2.2.1 b2.2.2.1 b2.2.2.2.1 b2.2.2.2.2.1 b2.2.2.2.2.2.1 b2.2.2.2.2.2.2.1 b2.2.2.2.2.2.2.2.1 b2.2.2.2.2.2.2.2.2.1 b2.2.2.2.2.2.2.2.2.2.1 b2.2.2.2.2.2.2.2.2.2.2.1 b3.1 b3.2.1 b3.2.2.1 b3.2.2.2.1 b3.2.2.2.2.1 b3.2.2.2.2.2.1 b3.2.2.2.2.2.2.1 b3.2.2.2.2.2.2.2.1 b3.2.2.2.2.2.2.2.2.1 b3.2.2.2.2.2.2.2.2.2.1 b3.2.2.2.2.2.2.2.2.2.2.1).bind fun b4 => cond (!b4) (RET false) (cond (!b2.2.2.2.2.2.2.2.2.2.2.2) ((F15 k).bind fun b5 => RET b5) ((F11 k b2.1 b2.2.1 b2.2.2.1 b2.2.2.2.1 b2.2.2.2.2.1 b2.2.2.2.2.2.1 b2.2.2.2.2.2.2.1 b2.2.2.2.2.2.2.2.1 b2.2.2.2.2.2.2.2.2.1 b2.2.2.2.2.2.2.2.2.2.1 b2.2.2.2.2.2.2.2.2.2.2.1 ((b1.2.2.2.2.2.2.2.2.2.2.1.length : Nat) : Int)).bind fun b6 => (F14 k b2.1 b2.2.1 b2.2.2.1 b2.2.2.2.1 b2.2.2.2.2.1 b2.2.2.2.2.2.1 b2.2.2.2.2.2.2.1 b2.2.2.2.2.2.2.2.1 b2.2.2.2.2.2.2.2.2.1 b2.2.2.2.2.2.2.2.2.2.1 b2.2.2.2.2.2.2.2.2.2.2.1).bind fun b7 => cond b7 ((F16 k b2.1 b2.2.1 b2.2.2.1 b2.2.2.2.1 b2.2.2.2.2.1 b2.2.2.2.2.2.1 b2.2.2.2.2.2.2.1 b2.2.2.2.2.2.2.2.1 b2.2.2.2.2.2.2.2.2.1 b2.2.2.2.2.2.2.2.2.2.1 b2.2.2.2.2.2.2.2.2.2.2.1).bind fun b8 => (F16 k b1.1 b1.2.1 b1.2.2.1 b1.2.2.2.1 b1.2.2.2.2.1 b1.2.2.2.2.2.1 b1.2.2.2.2.2.2.1 b1.2.2.2.2.2.2.2.1 b1.2.2.2.2.2.2.2.2.1 b1.2.2.2.2.2.2.2.2.2.1 b1.2.2.2.2.2.2.2.2.2.2.1).bind fun b9 => (F16 k b1.2.2.2.2.2.2.2.2.2.2.2.1 b1.2.2.2.2.2.2.2.2.2.2.2.2.1 b1.2.2.2.2.2.2.2.2.2.2.2.2.2.1 b1.2.2.2.2.2.2.2.2.2.2.2.2.2.2.1 b1.2.2.2.2.2.2.2.2.2.2.2.2.2.2.2.1 b1.2.2.2.2.2.2.2.2.2.2.2.2.2.2.2.2.1 b1.2.2.2.2.2.2.2.2.2.2.2.2.2.2.2.2.2.1 b1.2.2.2.2.2.2.2.2.2.2.2.2.2.2.2.2.2.2.1 b1.2.2.2.2.2.2.2.2.2.2.2.2.2.2.2.2.2.2.2.1 b1.2.2.2.2.2.2.2.2.2.2.2.2.2.2.2.2.2.2.2.2.1 b1.2.2.2.2.2.2.2.2.2.2.2.2.2.2.2.2.2.2.2.2.2).bind fun b10 => cond (b8 == (IntKind.i64.wrap (b9 + b10))) (cond (decide (((b1.2.2.2.2.2.2.2.2.2.2.2.2.2.2.2.2.2.2.2.2.2.length : Nat) : Int) > ((b1.2.2.2.2.2.2.2.2.2.2.1.length : Nat) : Int))) (RET true) ((F12 k b6 [(b1.1, b1.2.1, b1.2.2.1, b1.2.2.2.1, b1.2.2.2.2.1, b1.2.2.2.2.2.1, b1.2.2.2.2.2.2.1, b1.2.2.2.2.2.2.2.1, b1.2.2.2.2.2.2.2.2.1, b1.2.2.2.2.2.2.2.2.2.1, b1.2.2.2.2.2.2.2.2.2.2.1), b1.2.2.2.2.2.2.2.2.2.2.2]).bind fun b11 => RET b11)) (RET false)) (RET false)))))
def F4 (k : Nat) (a0 : List (den (.int .u8))) : Option (Bool) := F4_T k a0 some
theorem F4_st {β : Type} (k : Nat) (a0 : List (den (.int .u8))) (K : A × List (List Leaf) → Option β) : evalF (F4_E k) Try.f4 (F4_a a0) K =
    F4_T k a0 (fun r => K (F4_r r)) := by kernel_rfl
theorem F4_ev {β : Type} (k : Nat) (a0 : List (den (.int .u8))) (K : A × List (List Leaf) → Option β) : evalF (F4_E k) Try.f4 (F4_a a0) K = (F4 k a0).bind fun r => K (F4_r r) := by
  rw [F4_st, F4]
  simp only [F4_T, bind_cond, Option.bind_assoc, Option.bind_some, Option.bind_none, Option.bind_fun_some]
theorem F4_tOk (k : Nat) : TabFn Try.prog (F4_t k) := .ent (F19_q k) F19_f (.ent (F20_q k) F20_f (.ent (F21_q k) F21_f (.ent (F18_q k) F18_f (.ent (F15_q k) F15_f (.ent (F11_q k) F11_f (.ent (F14_q k) F14_f (.ent (F16_q k) F16_f (.ent (F12_q k) F12_f (.none)))))))))
theorem F4_con (k : Nat) (a0 : List (den (.int .u8))) : Contract Try.prog 4 (F4_a a0) ⟨F4 k a0, F4_r⟩ := con_of (envOk (F4_tOk k) _ _ _ _) mixed Try.func4 rfl rfl (F4_ev k a0 some)
def F4_sh : List AK := [.one (.l (.sl .ro (.int .u8)))]
def F4_p (k : Nat) : List Arg → Option CR := cle F4_sh fun x => ⟨F4 k x.1, F4_r⟩
theorem F4_q (k : Nat) : ∀ xs cr, F4_p k xs = some cr → Contract Try.prog 4 xs cr := cle_ok fun x => F4_con k _
theorem F4_f : FnOk Try.prog 4 := .of (by kernel_rfl)
end Go.Proofs.Ytnagpaikjikhaaa.Gn
end
