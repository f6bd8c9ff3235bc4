/-
  The functions that the law reaches, as plain Lean functions, and their contracts. (A part of the proofs of this seat.)
-/
import Derived.Test.YtamlndedbnkbmaaChecked
import Derived.Test.YtamlndedbnkbmaaRc
import Derived.KernelRfl

section
set_option linter.unusedVariables false
set_option linter.unusedSimpArgs false
/-
  The functions that the laws over joined segments reach, as plain functions (printed by rfgen.py).
-/
namespace Go.Proofs.Ytamlndedbnkbmaa.Gn
open Go.Rf
abbrev rng : Ty := (.pair (.int .i64) (.int .i64))
abbrev seg : Ty := (.pair (.int .i64) (.pair (.int .i64) (.pair (.int .i64) (.pair (.int .i64) (.pair (.int .i64) (.pair .bool (.pair .bool (.pair .bool (.pair .bool (.pair (.sl rng) (.sl (.int .u8))))))))))))
def tyT : List (Nat × TyI) := [(3, ⟨(.int .i64), false, 0⟩), (4, ⟨.bool, false, 0⟩), (5, ⟨(.int .u8), false, 0⟩), (22, ⟨(.sl (.int .u8)), false, 1⟩), (23, ⟨(.sl seg), false, 96⟩), (28, ⟨(.sl rng), false, 16⟩), (30, ⟨seg, true, 0⟩), (37, ⟨(.sl seg), false, 96⟩), (56, ⟨rng, true, 0⟩), (62, ⟨(.sl rng), false, 16⟩), (64, ⟨seg, true, 0⟩), (75, ⟨(.sl (.sl (.int .u8))), false, 24⟩), (82, ⟨rng, true, 0⟩)]
def fldT : FldT := [(30, [(0, 1, false), (1, 1, false), (2, 1, false), (3, 1, false), (4, 1, false), (5, 1, false), (6, 1, false), (7, 1, false), (8, 1, false), (9, 1, false), (10, 1, false)]), (56, [(0, 1, false), (1, 1, false)]), (64, [(0, 1, false), (1, 1, false), (2, 1, false), (3, 1, false), (4, 1, false), (5, 1, false), (6, 1, false), (7, 1, false), (8, 1, false), (9, 1, false), (10, 1, false)]), (82, [(0, 1, false), (1, 1, false)])]
def eqT : List Nat := [56]
def env (tab : Tab) (hint : Nat → Hint) (rm : Rf.Mode) (pins : List (Bool × Nat)) (k : Nat) : Env :=
  { tab := tab, lend := (fun f => cond (Nat.beq f 67) [true] (cond (Nat.beq f 66) [true] (cond (Nat.beq f 25) [true] ([])))), lent := (fun f => cond (Nat.beq f 17) [true] (cond (Nat.beq f 44) [true] (cond (Nat.beq f 43) [true] ([])))), pins := pins, ty := asc tyT, fld := fldOf fldT, pw := fun _ => none, cw := fun _ => [], hint := hint, eqt := hasK eqT, rm := rm, fuel := k }
theorem tyOk : AllT (TyOk Try.prog) tyT :=
  ⟨.ofInt (b := 8) (by kernel_rfl) (by kernel_rfl), .ofBool (b := 1) (by kernel_rfl) (by kernel_rfl), .ofInt (b := 1) (by kernel_rfl) (by kernel_rfl), .ofSl (te := 5) (b := 24) (by kernel_rfl) (by kernel_rfl) (by kernel_rfl) (fun _ h => by cases h; kernel_rfl), .ofSl (te := 30) (b := 24) (by kernel_rfl) (by kernel_rfl) (by kernel_rfl) nofun, .ofSl (te := 56) (b := 24) (by kernel_rfl) (by kernel_rfl) (by kernel_rfl) nofun, .ofAgg (b := 96) (by kernel_rfl) (by kernel_rfl), .ofSl (te := 64) (b := 24) (by kernel_rfl) (by kernel_rfl) (by kernel_rfl) nofun, .ofAgg (b := 16) (by kernel_rfl) (by kernel_rfl), .ofSl (te := 82) (b := 24) (by kernel_rfl) (by kernel_rfl) (by kernel_rfl) nofun, .ofAgg (b := 96) (by kernel_rfl) (by kernel_rfl), .ofSl (te := 22) (b := 24) (by kernel_rfl) (by kernel_rfl) (by kernel_rfl) nofun, .ofAgg (b := 16) (by kernel_rfl) (by kernel_rfl), trivial⟩
theorem fldOk : AllF Try.prog fldT :=
  ⟨⟨⟨by kernel_rfl, by kernel_rfl⟩, ⟨by kernel_rfl, by kernel_rfl⟩, ⟨by kernel_rfl, by kernel_rfl⟩, ⟨by kernel_rfl, by kernel_rfl⟩, ⟨by kernel_rfl, by kernel_rfl⟩, ⟨by kernel_rfl, by kernel_rfl⟩, ⟨by kernel_rfl, by kernel_rfl⟩, ⟨by kernel_rfl, by kernel_rfl⟩, ⟨by kernel_rfl, by kernel_rfl⟩, ⟨by kernel_rfl, by kernel_rfl⟩, ⟨by kernel_rfl, by kernel_rfl⟩, trivial⟩, ⟨⟨by kernel_rfl, by kernel_rfl⟩, ⟨by kernel_rfl, by kernel_rfl⟩, trivial⟩, ⟨⟨by kernel_rfl, by kernel_rfl⟩, ⟨by kernel_rfl, by kernel_rfl⟩, ⟨by kernel_rfl, by kernel_rfl⟩, ⟨by kernel_rfl, by kernel_rfl⟩, ⟨by kernel_rfl, by kernel_rfl⟩, ⟨by kernel_rfl, by kernel_rfl⟩, ⟨by kernel_rfl, by kernel_rfl⟩, ⟨by kernel_rfl, by kernel_rfl⟩, ⟨by kernel_rfl, by kernel_rfl⟩, ⟨by kernel_rfl, by kernel_rfl⟩, ⟨by kernel_rfl, by kernel_rfl⟩, trivial⟩, ⟨⟨by kernel_rfl, by kernel_rfl⟩, ⟨by kernel_rfl, by kernel_rfl⟩, trivial⟩, trivial⟩
theorem mixed : Try.prog.follows .mixedOrders = true := by kernel_rfl
theorem bldOk : AllT (fun t i => i.agg = true → BldOk Try.prog t (fldOf fldT t)) tyT :=
  ⟨nofun, nofun, nofun, nofun, nofun, nofun, fun _ => bld_of (row := [(0, 1, false), (1, 1, false), (2, 1, false), (3, 1, false), (4, 1, false), (5, 1, false), (6, 1, false), (7, 1, false), (8, 1, false), (9, 1, false), (10, 1, false)]) rfl (by kernel_rfl) (by kernel_rfl), nofun, fun _ => bld_of (row := [(0, 1, false), (1, 1, false)]) rfl (by kernel_rfl) (by kernel_rfl), nofun, fun _ => bld_of (row := [(0, 1, false), (1, 1, false), (2, 1, false), (3, 1, false), (4, 1, false), (5, 1, false), (6, 1, false), (7, 1, false), (8, 1, false), (9, 1, false), (10, 1, false)]) rfl (by kernel_rfl) (by kernel_rfl), nofun, fun _ => bld_of (row := [(0, 1, false), (1, 1, false)]) rfl (by kernel_rfl) (by kernel_rfl), trivial⟩
theorem eqOkT : AllT (fun t i => hasK eqT t = true → EqOk Try.prog t i.ty) tyT :=
  ⟨fun h => absurd h (by decide), fun h => absurd h (by decide), fun h => absurd h (by decide), fun h => absurd h (by decide), fun h => absurd h (by decide), fun h => absurd h (by decide), fun h => absurd h (by decide), fun h => absurd h (by decide), fun _ => EqOk.of (n := 8) (by decide) (by kernel_rfl) (by kernel_rfl) (by kernel_rfl) (by kernel_rfl) (by kernel_rfl), fun h => absurd h (by decide), fun h => absurd h (by decide), fun h => absurd h (by decide), fun h => absurd h (by decide), trivial⟩
theorem tysOk (tab : Tab) (hint : Nat → Hint) (rm : Rf.Mode) (pins : List (Bool × Nat)) (k : Nat) : TysOk Try.prog (env tab hint rm pins k) :=
  ⟨fun t i h => tyOk.get h, fun s f z h => fldOk.get h, fun t i h => bldOk.get h, fun t i h h2 => eqOkT.get h2 h⟩
theorem envOk {tab : Tab} (h : TabFn Try.prog tab) (hint : Nat → Hint) (rm : Rf.Mode) (pins : List (Bool × Nat)) (k : Nat) : EnvOk Try.prog (env tab hint rm pins k) := EnvOk.of (tysOk tab hint rm pins k) h
def noTab : Tab := fun _ _ => none
def noHint : Nat → Hint := fun _ => ⟨[], []⟩
/-! 60: loop.example/netstack/laws.szRangeS -/
abbrev F60_E (k : Nat) : Env := env noTab noHint .own [] k
abbrev F60_a (a0 : List (den rng)) (a1 : Int) : List Arg := [.one (.l (.s .ro rng a0)), .one (.l (.v (.int .i64 a1)))]
def F60_r (r : Int) : A × List (List Leaf) := (.one (.v (.int .i64 r)), [])
def F60_T {β : Type} (k : Nat) (a0 : List (den rng)) (a1 : Int) (RET : Int → Option β) : Option β := cond (decide ((IntKind.i64.wrap (a1 - ((a0.length : Nat) : Int))) < 0)) (RET (-1)) (RET (IntKind.i64.wrap (a1 - ((a0.length : Nat) : Int))))
def F60 (k : Nat) (a0 : List (den rng)) (a1 : Int) : Option (Int) := F60_T k a0 a1 some
theorem F60_st {β : Type} (k : Nat) (a0 : List (den rng)) (a1 : Int) (K : A × List (List Leaf) → Option β) : evalF (F60_E k) Try.f60 (F60_a a0 a1) K =
    F60_T k a0 a1 (fun r => K (F60_r r)) := by kernel_rfl
theorem F60_ev {β : Type} (k : Nat) (a0 : List (den rng)) (a1 : Int) (K : A × List (List Leaf) → Option β) : evalF (F60_E k) Try.f60 (F60_a a0 a1) K = (F60 k a0 a1).bind fun r => K (F60_r r) := by
  rw [F60_st, F60]
  simp only [F60_T, bind_cond, Option.bind_assoc, Option.bind_some, Option.bind_none, Option.bind_fun_some]
theorem F60_con (k : Nat) (a0 : List (den rng)) (a1 : Int) : Contract Try.prog 60 (F60_a a0 a1) ⟨F60 k a0 a1, F60_r⟩ := con_of (envOk .none _ _ _ _) mixed Try.func60 rfl rfl (F60_ev k a0 a1 some)
def F60_sh : List AK := [.one (.l (.sl .ro rng)), .one (.l (.int .i64))]
def F60_p (k : Nat) : List Arg → Option CR := cle F60_sh fun x => ⟨F60 k x.1 x.2.1, F60_r⟩
theorem F60_q (k : Nat) : ∀ xs cr, F60_p k xs = some cr → Contract Try.prog 60 xs cr := cle_ok fun x => F60_con k _ _
theorem F60_f : FnOk Try.prog 60 := .of (by kernel_rfl)
/-! 61: loop.example/netstack/laws.szByteS -/
abbrev F61_E (k : Nat) : Env := env noTab noHint .own [] k
abbrev F61_a (a0 : List (den (.int .u8))) (a1 : Int) : List Arg := [.one (.l (.s .ro (.int .u8) a0)), .one (.l (.v (.int .i64 a1)))]
def F61_r (r : Int) : A × List (List Leaf) := (.one (.v (.int .i64 r)), [])
def F61_T {β : Type} (k : Nat) (a0 : List (den (.int .u8))) (a1 : Int) (RET : Int → Option β) : Option β := cond (decide ((IntKind.i64.wrap (a1 - ((a0.length : Nat) : Int))) < 0)) (RET (-1)) (RET (IntKind.i64.wrap (a1 - ((a0.length : Nat) : Int))))
def F61 (k : Nat) (a0 : List (den (.int .u8))) (a1 : Int) : Option (Int) := F61_T k a0 a1 some
theorem F61_st {β : Type} (k : Nat) (a0 : List (den (.int .u8))) (a1 : Int) (K : A × List (List Leaf) → Option β) : evalF (F61_E k) Try.f61 (F61_a a0 a1) K =
    F61_T k a0 a1 (fun r => K (F61_r r)) := by kernel_rfl
theorem F61_ev {β : Type} (k : Nat) (a0 : List (den (.int .u8))) (a1 : Int) (K : A × List (List Leaf) → Option β) : evalF (F61_E k) Try.f61 (F61_a a0 a1) K = (F61 k a0 a1).bind fun r => K (F61_r r) := by
  rw [F61_st, F61]
  simp only [F61_T, bind_cond, Option.bind_assoc, Option.bind_some, Option.bind_none, Option.bind_fun_some]
theorem F61_con (k : Nat) (a0 : List (den (.int .u8))) (a1 : Int) : Contract Try.prog 61 (F61_a a0 a1) ⟨F61 k a0 a1, F61_r⟩ := con_of (envOk .none _ _ _ _) mixed Try.func61 rfl rfl (F61_ev k a0 a1 some)
def F61_sh : List AK := [.one (.l (.sl .ro (.int .u8))), .one (.l (.int .i64))]
def F61_p (k : Nat) : List Arg → Option CR := cle F61_sh fun x => ⟨F61 k x.1 x.2.1, F61_r⟩
theorem F61_q (k : Nat) : ∀ xs cr, F61_p k xs = some cr → Contract Try.prog 61 xs cr := cle_ok fun x => F61_con k _ _
theorem F61_f : FnOk Try.prog 61 := .of (by kernel_rfl)
/-! 40: loop.example/netstack/laws.szSegment -/
def F40_t (k : Nat) : Tab := entT 60 (F60_p k) <| entT 61 (F61_p k) <| noTab
abbrev F40_E (k : Nat) : Env := env (F40_t k) noHint .own [] k
abbrev F40_a (a0_0 a0_1 a0_2 a0_3 a0_4 : Int) (a0_5 a0_6 a0_7 a0_8 : Bool) (a0_9 : List (den rng)) (a0_10 : List (den (.int .u8))) (a1 : Int) : List Arg := [.agg [.l (.v (.int .i64 a0_0)), .l (.v (.int .i64 a0_1)), .l (.v (.int .i64 a0_2)), .l (.v (.int .i64 a0_3)), .l (.v (.int .i64 a0_4)), .l (.v (.bool a0_5)), .l (.v (.bool a0_6)), .l (.v (.bool a0_7)), .l (.v (.bool a0_8)), .l (.s .ro rng a0_9), .l (.s .ro (.int .u8) a0_10)], .one (.l (.v (.int .i64 a1)))]
def F40_r (r : Int) : A × List (List Leaf) := (.one (.v (.int .i64 r)), [])
def F40_T {β : Type} (k : Nat) (a0_0 a0_1 a0_2 a0_3 a0_4 : Int) (a0_5 a0_6 a0_7 a0_8 : Bool) (a0_9 : List (den rng)) (a0_10 : List (den (.int .u8))) (a1 : Int) (RET : Int → Option β) : Option β := (F60 k a0_9 a1).bind fun b1 => cond (decide (b1 < 0)) (RET (-1)) ((F61 k a0_10 b1).bind fun b2 => cond (decide (b2 < 0)) (RET (-1)) (RET b2))
def F40 (k : Nat) (a0_0 a0_1 a0_2 a0_3 a0_4 : Int) (a0_5 a0_6 a0_7 a0_8 : Bool) (a0_9 : List (den rng)) (a0_10 : List (den (.int .u8))) (a1 : Int) : Option (Int) := F40_T k a0_0 a0_1 a0_2 a0_3 a0_4 a0_5 a0_6 a0_7 a0_8 a0_9 a0_10 a1 some
theorem F40_st {β : Type} (k : Nat) (a0_0 a0_1 a0_2 a0_3 a0_4 : Int) (a0_5 a0_6 a0_7 a0_8 : Bool) (a0_9 : List (den rng)) (a0_10 : List (den (.int .u8))) (a1 : Int) (K : A × List (List Leaf) → Option β) : evalF (F40_E k) Try.f40 (F40_a a0_0 a0_1 a0_2 a0_3 a0_4 a0_5 a0_6 a0_7 a0_8 a0_9 a0_10 a1) K =
    F40_T k a0_0 a0_1 a0_2 a0_3 a0_4 a0_5 a0_6 a0_7 a0_8 a0_9 a0_10 a1 (fun r => K (F40_r r)) := by kernel_rfl
theorem F40_ev {β : Type} (k : Nat) (a0_0 a0_1 a0_2 a0_3 a0_4 : Int) (a0_5 a0_6 a0_7 a0_8 : Bool) (a0_9 : List (den rng)) (a0_10 : List (den (.int .u8))) (a1 : Int) (K : A × List (List Leaf) → Option β) : evalF (F40_E k) Try.f40 (F40_a a0_0 a0_1 a0_2 a0_3 a0_4 a0_5 a0_6 a0_7 a0_8 a0_9 a0_10 a1) K = (F40 k a0_0 a0_1 a0_2 a0_3 a0_4 a0_5 a0_6 a0_7 a0_8 a0_9 a0_10 a1).bind fun r => K (F40_r r) := by
  rw [F40_st, F40]
  simp only [F40_T, bind_cond, Option.bind_assoc, Option.bind_some, Option.bind_none, Option.bind_fun_some]
theorem F40_tOk (k : Nat) : TabFn Try.prog (F40_t k) := .ent (F60_q k) F60_f (.ent (F61_q k) F61_f (.none))
theorem F40_con (k : Nat) (a0_0 a0_1 a0_2 a0_3 a0_4 : Int) (a0_5 a0_6 a0_7 a0_8 : Bool) (a0_9 : List (den rng)) (a0_10 : List (den (.int .u8))) (a1 : Int) : Contract Try.prog 40 (F40_a a0_0 a0_1 a0_2 a0_3 a0_4 a0_5 a0_6 a0_7 a0_8 a0_9 a0_10 a1) ⟨F40 k a0_0 a0_1 a0_2 a0_3 a0_4 a0_5 a0_6 a0_7 a0_8 a0_9 a0_10 a1, F40_r⟩ := con_of (envOk (F40_tOk k) _ _ _ _) mixed Try.func40 rfl rfl (F40_ev k a0_0 a0_1 a0_2 a0_3 a0_4 a0_5 a0_6 a0_7 a0_8 a0_9 a0_10 a1 some)
def F40_sh : List AK := [.agg [.l (.int .i64), .l (.int .i64), .l (.int .i64), .l (.int .i64), .l (.int .i64), .l (.bool), .l (.bool), .l (.bool), .l (.bool), .l (.sl .ro rng), .l (.sl .ro (.int .u8))], .one (.l (.int .i64))]
def F40_p (k : Nat) : List Arg → Option CR := cle F40_sh fun x => ⟨F40 k x.1.1 x.1.2.1 x.1.2.2.1 x.1.2.2.2.1 x.1.2.2.2.2.1 x.1.2.2.2.2.2.1 x.1.2.2.2.2.2.2.1 x.1.2.2.2.2.2.2.2.1 x.1.2.2.2.2.2.2.2.2.1 x.1.2.2.2.2.2.2.2.2.2.1 x.1.2.2.2.2.2.2.2.2.2.2.1 x.2.1, F40_r⟩
theorem F40_q (k : Nat) : ∀ xs cr, F40_p k xs = some cr → Contract Try.prog 40 xs cr := cle_ok fun x => F40_con k _ _ _ _ _ _ _ _ _ _ _ _
theorem F40_f : FnOk Try.prog 40 := .of (by kernel_rfl)
/-! 14: loop.example/netstack/laws.szSegmentS -/
def F14_h : Nat → Hint
  | 0 => ⟨[(0, .plain), (1, .plain), (5, .plain)], []⟩
  | _ => ⟨[], []⟩
def F14_t (k : Nat) : Tab := entT 40 (F40_p k) <| noTab
abbrev F14_E (k : Nat) : Env := env (F14_t k) F14_h .own [] k
abbrev F14_a (a0 : List (den seg)) (a1 : Int) : List Arg := [.one (.l (.s .ro seg a0)), .one (.l (.v (.int .i64 a1)))]
def F14_r (r : Int) : A × List (List Leaf) := (.one (.v (.int .i64 r)), [])
def F14_s0 (a0 : List (den seg)) (a1 : Int) (x1_0 x5_0 : Int) : St := ⟨(.one (.s .ro seg a0)) :: (.one (.v (.int .i64 x1_0))) :: dz 3 ((.one (.v (.int .i64 x5_0))) :: dz 21 []), []⟩
def F14_l0_T {β : Type} (k : Nat) (a0 : List (den seg)) (a1 : Int) (NX : Int → Int → Option β) (RET : Int → Option β) (x1_0 x5_0 : Int) : Option β := cond (decide (x5_0 < ((a0.length : Nat) : Int))) (cond (decide (0 ≤ x5_0)) (cond (decide (x5_0 < ((a0.length : Nat) : Int))) ((F40 k ((atI a0 x5_0).1) (((atI a0 x5_0).2).1) ((((atI a0 x5_0).2).2).1) (((((atI a0 x5_0).2).2).2).1) ((((((atI a0 x5_0).2).2).2).2).1) (((((((atI a0 x5_0).2).2).2).2).2).1) ((((((((atI a0 x5_0).2).2).2).2).2).2).1) (((((((((atI a0 x5_0).2).2).2).2).2).2).2).1) ((((((((((atI a0 x5_0).2).2).2).2).2).2).2).2).1) (((((((((((atI a0 x5_0).2).2).2).2).2).2).2).2).2).1) (((((((((((atI a0 x5_0).2).2).2).2).2).2).2).2).2).2) x1_0).bind fun b1 => cond (decide (b1 < 0)) (RET (-1)) (NX b1 (IntKind.i64.wrap (x5_0 + 1)))) none) none) (RET x1_0)
def F14_l0 (k : Nat) (a0 : List (den seg)) (a1 : Int) : Nat → Int → Int → Option (Int)
  | 0, _, _ => none
  | n + 1, x1_0, x5_0 => F14_l0_T k a0 a1 (fun x1_0 x5_0 => F14_l0 k a0 a1 n x1_0 x5_0) some x1_0 x5_0
theorem F14_l0_rd {β : Type} (k n : Nat) (a0 : List (den seg)) (a1 : Int) (x1_0 x5_0 : Int) (K : A × List (List Leaf) → Option β) :
    loopG (F14_E k) Try.f14 [1, 1, 1, 0, 1, 0] 0 (kontAt (F14_E k) [1, 1, 1, 0, 1, 0] (bodyOf Try.f14) 0 (endC (F14_E k) Try.f14 (F14_a a0 a1) K)) (n + 1) (F14_s0 a0 a1 x1_0 x5_0) =
    F14_l0_T k a0 a1 (fun x1_0 x5_0 => loopG (F14_E k) Try.f14 [1, 1, 1, 0, 1, 0] 0 (kontAt (F14_E k) [1, 1, 1, 0, 1, 0] (bodyOf Try.f14) 0 (endC (F14_E k) Try.f14 (F14_a a0 a1) K)) n (F14_s0 a0 a1 x1_0 x5_0)) (fun r => K (F14_r r)) x1_0 x5_0 := by kernel_rfl
theorem F14_l0_lp {β : Type} (k : Nat) (a0 : List (den seg)) (a1 : Int) (K : A × List (List Leaf) → Option β) (n : Nat) : ∀ (x1_0 x5_0 : Int), loopG (F14_E k) Try.f14 [1, 1, 1, 0, 1, 0] 0 (kontAt (F14_E k) [1, 1, 1, 0, 1, 0] (bodyOf Try.f14) 0 (endC (F14_E k) Try.f14 (F14_a a0 a1) K)) n (F14_s0 a0 a1 x1_0 x5_0) =
    (F14_l0 k a0 a1 n x1_0 x5_0).bind fun r => K (F14_r r) := by
  induction n with
  | zero => intros; rfl
  | succ n ih =>
    intros
    rw [F14_l0_rd, F14_l0]
    simp only [F14_l0_T, bind_cond, Option.bind_assoc, Option.bind_some, Option.bind_none, Option.bind_fun_some, ih]
def F14_T {β : Type} (k : Nat) (a0 : List (den seg)) (a1 : Int) (LP0 : Int → Int → Option β) (RET : Int → Option β) : Option β := cond (decide ((IntKind.i64.wrap (a1 - ((a0.length : Nat) : Int))) < 0)) (RET (-1)) (LP0 (IntKind.i64.wrap (a1 - ((a0.length : Nat) : Int))) 0)
def F14 (k : Nat) (a0 : List (den seg)) (a1 : Int) : Option (Int) := F14_T k a0 a1 (fun x1_0 x5_0 => F14_l0 k a0 a1 k x1_0 x5_0) some
theorem F14_st {β : Type} (k : Nat) (a0 : List (den seg)) (a1 : Int) (K : A × List (List Leaf) → Option β) : evalF (F14_E k) Try.f14 (F14_a a0 a1) K =
    F14_T k a0 a1 (fun x1_0 x5_0 => loopG (F14_E k) Try.f14 [1, 1, 1, 0, 1, 0] 0 (kontAt (F14_E k) [1, 1, 1, 0, 1, 0] (bodyOf Try.f14) 0 (endC (F14_E k) Try.f14 (F14_a a0 a1) K)) k (F14_s0 a0 a1 x1_0 x5_0)) (fun r => K (F14_r r)) := by kernel_rfl
theorem F14_ev {β : Type} (k : Nat) (a0 : List (den seg)) (a1 : Int) (K : A × List (List Leaf) → Option β) : evalF (F14_E k) Try.f14 (F14_a a0 a1) K = (F14 k a0 a1).bind fun r => K (F14_r r) := by
  rw [F14_st, F14]
  simp only [F14_T, bind_cond, Option.bind_assoc, Option.bind_some, Option.bind_none, Option.bind_fun_some, F14_l0_lp]
theorem F14_tOk (k : Nat) : TabFn Try.prog (F14_t k) := .ent (F40_q k) F40_f (.none)
theorem F14_con (k : Nat) (a0 : List (den seg)) (a1 : Int) : Contract Try.prog 14 (F14_a a0 a1) ⟨F14 k a0 a1, F14_r⟩ := con_of (envOk (F14_tOk k) _ _ _ _) mixed Try.func14 rfl rfl (F14_ev k a0 a1 some)
def F14_sh : List AK := [.one (.l (.sl .ro seg)), .one (.l (.int .i64))]
def F14_p (k : Nat) : List Arg → Option CR := cle F14_sh fun x => ⟨F14 k x.1 x.2.1, F14_r⟩
theorem F14_q (k : Nat) : ∀ xs cr, F14_p k xs = some cr → Contract Try.prog 14 xs cr := cle_ok fun x => F14_con k _ _
theorem F14_f : FnOk Try.prog 14 := .of (by kernel_rfl)
/-! 68: loop.example/netstack/laws.toRange -/
abbrev F68_E (k : Nat) : Env := env noTab noHint .own [] k
abbrev F68_a (a0_0 a0_1 : Int) : List Arg := [.agg [.l (.v (.int .i64 a0_0)), .l (.v (.int .i64 a0_1))]]
def F68_r (r : Int × Int) : A × List (List Leaf) := (.agg [.v (.int .i64 r.1), .v (.int .i64 r.2)], [])
def F68 (k : Nat) (a0_0 a0_1 : Int) : Option (Int × Int) := some (a0_0, a0_1)
theorem F68_st {β : Type} (k : Nat) (a0_0 a0_1 : Int) (K : A × List (List Leaf) → Option β) : evalF (F68_E k) Try.f68 (F68_a a0_0 a0_1) K =
    K (.agg [.v (.int .i64 a0_0), .v (.int .i64 a0_1)], []) := by kernel_rfl
theorem F68_ev {β : Type} (k : Nat) (a0_0 a0_1 : Int) (K : A × List (List Leaf) → Option β) : evalF (F68_E k) Try.f68 (F68_a a0_0 a0_1) K = (F68 k a0_0 a0_1).bind fun r => K (F68_r r) := by
  rw [F68_st, F68]
  simp only [F68_r, bind_cond, Option.bind_assoc, Option.bind_some, Option.bind_none, Option.bind_fun_some]
theorem F68_con (k : Nat) (a0_0 a0_1 : Int) : Contract Try.prog 68 (F68_a a0_0 a0_1) ⟨F68 k a0_0 a0_1, F68_r⟩ := con_of (envOk .none _ _ _ _) mixed Try.func68 rfl rfl (F68_ev k a0_0 a0_1 some)
def F68_sh : List AK := [.agg [.l (.int .i64), .l (.int .i64)]]
def F68_p (k : Nat) : List Arg → Option CR := cle F68_sh fun x => ⟨F68 k x.1.1 x.1.2.1, F68_r⟩
theorem F68_q (k : Nat) : ∀ xs cr, F68_p k xs = some cr → Contract Try.prog 68 xs cr := cle_ok fun x => F68_con k _ _
theorem F68_f : FnOk Try.prog 68 := .of (by kernel_rfl)
/-! 62: loop.example/netstack/laws.toRangeS -/
def F62_h : Nat → Hint
  | 0 => ⟨[(0, .plain), (3, .plain), (4, .plain)], [(7000, .plain)]⟩
  | _ => ⟨[], []⟩
def F62_t (k : Nat) : Tab := entT 68 (F68_p k) <| noTab
abbrev F62_E (k : Nat) : Env := env (F62_t k) F62_h .own [] k
abbrev F62_a (a0 : List (den rng)) : List Arg := [.one (.l (.s .ro rng a0))]
def F62_r (r : List (den rng)) : A × List (List Leaf) := (.one (.s .own rng r), [])
def F62_s0 (a0 : List (den rng)) (x4_0 : Int) (m7000_0 : List (den rng)) : St := ⟨(.one (.s .ro rng a0)) :: (.one .d) :: (.one .d) :: (.one (.a (.cell 7000) 0 0 none)) :: (.one (.v (.int .i64 x4_0))) :: dz 18 [], [(7000, ⟨.s .own rng m7000_0, 0, 0⟩)]⟩
def F62_l0_T {β : Type} (k : Nat) (a0 : List (den rng)) (NX : Int → List (den rng) → Option β) (RET : List (den rng) → Option β) (x4_0 : Int) (m7000_0 : List (den rng)) : Option β := cond (decide (x4_0 < ((a0.length : Nat) : Int))) (cond (decide (0 ≤ x4_0)) (cond (decide (x4_0 < ((a0.length : Nat) : Int))) ((F68 k ((atI a0 x4_0).1) ((atI a0 x4_0).2)).bind fun b1 => cond (decide (0 ≤ x4_0)) (cond (decide (x4_0 < ((m7000_0.length : Nat) : Int))) (NX (IntKind.i64.wrap (x4_0 + 1)) (m7000_0.set x4_0.toNat b1)) none) none) none) none) (RET m7000_0)
def F62_l0 (k : Nat) (a0 : List (den rng)) : Nat → Int → List (den rng) → Option (List (den rng))
  | 0, _, _ => none
  | n + 1, x4_0, m7000_0 => F62_l0_T k a0 (fun x4_0 m7000_0 => F62_l0 k a0 n x4_0 m7000_0) some x4_0 m7000_0
theorem F62_l0_rd {β : Type} (k n : Nat) (a0 : List (den rng)) (x4_0 : Int) (m7000_0 : List (den rng)) (K : A × List (List Leaf) → Option β) :
    loopG (F62_E k) Try.f62 [1, 1, 0, 1, 0] 0 (kontAt (F62_E k) [1, 1, 0, 1, 0] (bodyOf Try.f62) 0 (endC (F62_E k) Try.f62 (F62_a a0) K)) (n + 1) (F62_s0 a0 x4_0 m7000_0) =
    F62_l0_T k a0 (fun x4_0 m7000_0 => loopG (F62_E k) Try.f62 [1, 1, 0, 1, 0] 0 (kontAt (F62_E k) [1, 1, 0, 1, 0] (bodyOf Try.f62) 0 (endC (F62_E k) Try.f62 (F62_a a0) K)) n (F62_s0 a0 x4_0 m7000_0)) (fun r => K (F62_r r)) x4_0 m7000_0 := by kernel_rfl
theorem F62_l0_lp {β : Type} (k : Nat) (a0 : List (den rng)) (K : A × List (List Leaf) → Option β) (n : Nat) : ∀ (x4_0 : Int) (m7000_0 : List (den rng)), loopG (F62_E k) Try.f62 [1, 1, 0, 1, 0] 0 (kontAt (F62_E k) [1, 1, 0, 1, 0] (bodyOf Try.f62) 0 (endC (F62_E k) Try.f62 (F62_a a0) K)) n (F62_s0 a0 x4_0 m7000_0) =
    (F62_l0 k a0 n x4_0 m7000_0).bind fun r => K (F62_r r) := by
  induction n with
  | zero => intros; rfl
  | succ n ih =>
    intros
    rw [F62_l0_rd, F62_l0]
    simp only [F62_l0_T, bind_cond, Option.bind_assoc, Option.bind_some, Option.bind_none, Option.bind_fun_some, ih]
def F62_T {β : Type} (k : Nat) (a0 : List (den rng)) (LP0 : Int → List (den rng) → Option β) : Option β := cond (decide (0 ≤ ((a0.length : Nat) : Int)) && decide (((a0.length : Nat) : Int) = ((a0.length : Nat) : Int)) && decide (((a0.length : Nat) : Int) * (16 : Nat) ≤ 140737488355328)) (LP0 0 (List.replicate (((a0.length : Nat) : Int).toNat) (dflt rng))) none
def F62 (k : Nat) (a0 : List (den rng)) : Option (List (den rng)) := F62_T k a0 (fun x4_0 m7000_0 => F62_l0 k a0 k x4_0 m7000_0)
theorem F62_st {β : Type} (k : Nat) (a0 : List (den rng)) (K : A × List (List Leaf) → Option β) : evalF (F62_E k) Try.f62 (F62_a a0) K =
    F62_T k a0 (fun x4_0 m7000_0 => loopG (F62_E k) Try.f62 [1, 1, 0, 1, 0] 0 (kontAt (F62_E k) [1, 1, 0, 1, 0] (bodyOf Try.f62) 0 (endC (F62_E k) Try.f62 (F62_a a0) K)) k (F62_s0 a0 x4_0 m7000_0)) := by kernel_rfl
theorem F62_ev {β : Type} (k : Nat) (a0 : List (den rng)) (K : A × List (List Leaf) → Option β) : evalF (F62_E k) Try.f62 (F62_a a0) K = (F62 k a0).bind fun r => K (F62_r r) := by
  rw [F62_st, F62]
  simp only [F62_T, bind_cond, Option.bind_assoc, Option.bind_some, Option.bind_none, Option.bind_fun_some, F62_l0_lp]
theorem F62_tOk (k : Nat) : TabFn Try.prog (F62_t k) := .ent (F68_q k) F68_f (.none)
theorem F62_con (k : Nat) (a0 : List (den rng)) : Contract Try.prog 62 (F62_a a0) ⟨F62 k a0, F62_r⟩ := con_of (envOk (F62_tOk k) _ _ _ _) mixed Try.func62 rfl rfl (F62_ev k a0 some)
def F62_sh : List AK := [.one (.l (.sl .ro rng))]
def F62_p (k : Nat) : List Arg → Option CR := cle F62_sh fun x => ⟨F62 k x.1, F62_r⟩
theorem F62_q (k : Nat) : ∀ xs cr, F62_p k xs = some cr → Contract Try.prog 62 xs cr := cle_ok fun x => F62_con k _
theorem F62_f : FnOk Try.prog 62 := .of (by kernel_rfl)
/-! 63: loop.example/netstack/laws.toByteS -/
def F63_h : Nat → Hint
  | 0 => ⟨[(0, .plain), (3, .plain), (4, .plain)], [(7000, .plain)]⟩
  | _ => ⟨[], []⟩
abbrev F63_E (k : Nat) : Env := env noTab F63_h .own [] k
abbrev F63_a (a0 : List (den (.int .u8))) : List Arg := [.one (.l (.s .ro (.int .u8) a0))]
def F63_r (r : List (den (.int .u8))) : A × List (List Leaf) := (.one (.s .own (.int .u8) r), [])
def F63_s0 (a0 : List (den (.int .u8))) (x4_0 : Int) (m7000_0 : List (den (.int .u8))) : St := ⟨(.one (.s .ro (.int .u8) a0)) :: (.one .d) :: (.one .d) :: (.one (.a (.cell 7000) 0 0 none)) :: (.one (.v (.int .i64 x4_0))) :: dz 17 [], [(7000, ⟨.s .own (.int .u8) m7000_0, 0, 0⟩)]⟩
def F63_l0_T {β : Type} (k : Nat) (a0 : List (den (.int .u8))) (NX : Int → List (den (.int .u8)) → Option β) (RET : List (den (.int .u8)) → Option β) (x4_0 : Int) (m7000_0 : List (den (.int .u8))) : Option β := cond (decide (x4_0 < ((a0.length : Nat) : Int))) (cond (decide (0 ≤ x4_0)) (cond (decide (x4_0 < ((a0.length : Nat) : Int))) (cond (decide (0 ≤ x4_0)) (cond (decide (x4_0 < ((m7000_0.length : Nat) : Int))) (NX (IntKind.i64.wrap (x4_0 + 1)) (m7000_0.set x4_0.toNat (atI a0 x4_0))) none) none) none) none) (RET m7000_0)
def F63_l0 (k : Nat) (a0 : List (den (.int .u8))) : Nat → Int → List (den (.int .u8)) → Option (List (den (.int .u8)))
  | 0, _, _ => none
  | n + 1, x4_0, m7000_0 => F63_l0_T k a0 (fun x4_0 m7000_0 => F63_l0 k a0 n x4_0 m7000_0) some x4_0 m7000_0
theorem F63_l0_rd {β : Type} (k n : Nat) (a0 : List (den (.int .u8))) (x4_0 : Int) (m7000_0 : List (den (.int .u8))) (K : A × List (List Leaf) → Option β) :
    loopG (F63_E k) Try.f63 [1, 1, 0, 1, 0] 0 (kontAt (F63_E k) [1, 1, 0, 1, 0] (bodyOf Try.f63) 0 (endC (F63_E k) Try.f63 (F63_a a0) K)) (n + 1) (F63_s0 a0 x4_0 m7000_0) =
    F63_l0_T k a0 (fun x4_0 m7000_0 => loopG (F63_E k) Try.f63 [1, 1, 0, 1, 0] 0 (kontAt (F63_E k) [1, 1, 0, 1, 0] (bodyOf Try.f63) 0 (endC (F63_E k) Try.f63 (F63_a a0) K)) n (F63_s0 a0 x4_0 m7000_0)) (fun r => K (F63_r r)) x4_0 m7000_0 := by kernel_rfl
theorem F63_l0_lp {β : Type} (k : Nat) (a0 : List (den (.int .u8))) (K : A × List (List Leaf) → Option β) (n : Nat) : ∀ (x4_0 : Int) (m7000_0 : List (den (.int .u8))), loopG (F63_E k) Try.f63 [1, 1, 0, 1, 0] 0 (kontAt (F63_E k) [1, 1, 0, 1, 0] (bodyOf Try.f63) 0 (endC (F63_E k) Try.f63 (F63_a a0) K)) n (F63_s0 a0 x4_0 m7000_0) =
    (F63_l0 k a0 n x4_0 m7000_0).bind fun r => K (F63_r r) := by
  induction n with
  | zero => intros; rfl
  | succ n ih =>
    intros
    rw [F63_l0_rd, F63_l0]
    simp only [F63_l0_T, bind_cond, Option.bind_assoc, Option.bind_some, Option.bind_none, Option.bind_fun_some, ih]
def F63_T {β : Type} (k : Nat) (a0 : List (den (.int .u8))) (LP0 : Int → List (den (.int .u8)) → Option β) : Option β := cond (decide (0 ≤ ((a0.length : Nat) : Int)) && decide (((a0.length : Nat) : Int) = ((a0.length : Nat) : Int)) && decide (((a0.length : Nat) : Int) * (1 : Nat) ≤ 140737488355328)) (LP0 0 (List.replicate (((a0.length : Nat) : Int).toNat) (dflt (.int .u8)))) none
def F63 (k : Nat) (a0 : List (den (.int .u8))) : Option (List (den (.int .u8))) := F63_T k a0 (fun x4_0 m7000_0 => F63_l0 k a0 k x4_0 m7000_0)
theorem F63_st {β : Type} (k : Nat) (a0 : List (den (.int .u8))) (K : A × List (List Leaf) → Option β) : evalF (F63_E k) Try.f63 (F63_a a0) K =
    F63_T k a0 (fun x4_0 m7000_0 => loopG (F63_E k) Try.f63 [1, 1, 0, 1, 0] 0 (kontAt (F63_E k) [1, 1, 0, 1, 0] (bodyOf Try.f63) 0 (endC (F63_E k) Try.f63 (F63_a a0) K)) k (F63_s0 a0 x4_0 m7000_0)) := by kernel_rfl
theorem F63_ev {β : Type} (k : Nat) (a0 : List (den (.int .u8))) (K : A × List (List Leaf) → Option β) : evalF (F63_E k) Try.f63 (F63_a a0) K = (F63 k a0).bind fun r => K (F63_r r) := by
  rw [F63_st, F63]
  simp only [F63_T, bind_cond, Option.bind_assoc, Option.bind_some, Option.bind_none, Option.bind_fun_some, F63_l0_lp]
theorem F63_con (k : Nat) (a0 : List (den (.int .u8))) : Contract Try.prog 63 (F63_a a0) ⟨F63 k a0, F63_r⟩ := con_of (envOk .none _ _ _ _) mixed Try.func63 rfl rfl (F63_ev k a0 some)
def F63_sh : List AK := [.one (.l (.sl .ro (.int .u8)))]
def F63_p (k : Nat) : List Arg → Option CR := cle F63_sh fun x => ⟨F63 k x.1, F63_r⟩
theorem F63_q (k : Nat) : ∀ xs cr, F63_p k xs = some cr → Contract Try.prog 63 xs cr := cle_ok fun x => F63_con k _
theorem F63_f : FnOk Try.prog 63 := .of (by kernel_rfl)
/-! 41: loop.example/netstack/laws.toSegment -/
def F41_t (k : Nat) : Tab := entT 62 (F62_p k) <| entT 63 (F63_p k) <| noTab
abbrev F41_E (k : Nat) : Env := env (F41_t k) noHint .own [] k
abbrev F41_a (a0_0 a0_1 a0_2 a0_3 a0_4 : Int) (a0_5 a0_6 a0_7 a0_8 : Bool) (a0_9 : List (den rng)) (a0_10 : List (den (.int .u8))) : List Arg := [.agg [.l (.v (.int .i64 a0_0)), .l (.v (.int .i64 a0_1)), .l (.v (.int .i64 a0_2)), .l (.v (.int .i64 a0_3)), .l (.v (.int .i64 a0_4)), .l (.v (.bool a0_5)), .l (.v (.bool a0_6)), .l (.v (.bool a0_7)), .l (.v (.bool a0_8)), .l (.s .ro rng a0_9), .l (.s .ro (.int .u8) a0_10)]]
def F41_r (r : Int × Int × Int × Int × Int × Bool × Bool × Bool × Bool × List (den rng) × List (den (.int .u8))) : A × List (List Leaf) := (.agg [.v (.int .i64 r.1), .v (.int .i64 r.2.1), .v (.int .i64 r.2.2.1), .v (.int .i64 r.2.2.2.1), .v (.int .i64 r.2.2.2.2.1), .v (.bool r.2.2.2.2.2.1), .v (.bool r.2.2.2.2.2.2.1), .v (.bool r.2.2.2.2.2.2.2.1), .v (.bool r.2.2.2.2.2.2.2.2.1), .s .own rng r.2.2.2.2.2.2.2.2.2.1, .s .own (.int .u8) r.2.2.2.2.2.2.2.2.2.2], [])
def F41_T {β : Type} (k : Nat) (a0_0 a0_1 a0_2 a0_3 a0_4 : Int) (a0_5 a0_6 a0_7 a0_8 : Bool) (a0_9 : List (den rng)) (a0_10 : List (den (.int .u8))) (RET : (Int × Int × Int × Int × Int × Bool × Bool × Bool × Bool × List (den rng) × List (den (.int .u8))) → Option β) : Option β := (F62 k a0_9).bind fun b1 => (F63 k a0_10).bind fun b2 => RET (a0_0, a0_1, a0_2, a0_3, a0_4, a0_5, a0_6, a0_7, a0_8, b1, b2)
def F41 (k : Nat) (a0_0 a0_1 a0_2 a0_3 a0_4 : Int) (a0_5 a0_6 a0_7 a0_8 : Bool) (a0_9 : List (den rng)) (a0_10 : List (den (.int .u8))) : Option (Int × Int × Int × Int × Int × Bool × Bool × Bool × Bool × List (den rng) × List (den (.int .u8))) := F41_T k a0_0 a0_1 a0_2 a0_3 a0_4 a0_5 a0_6 a0_7 a0_8 a0_9 a0_10 some
theorem F41_st {β : Type} (k : Nat) (a0_0 a0_1 a0_2 a0_3 a0_4 : Int) (a0_5 a0_6 a0_7 a0_8 : Bool) (a0_9 : List (den rng)) (a0_10 : List (den (.int .u8))) (K : A × List (List Leaf) → Option β) : evalF (F41_E k) Try.f41 (F41_a a0_0 a0_1 a0_2 a0_3 a0_4 a0_5 a0_6 a0_7 a0_8 a0_9 a0_10) K =
    F41_T k a0_0 a0_1 a0_2 a0_3 a0_4 a0_5 a0_6 a0_7 a0_8 a0_9 a0_10 (fun r => K (F41_r r)) := by kernel_rfl
theorem F41_ev {β : Type} (k : Nat) (a0_0 a0_1 a0_2 a0_3 a0_4 : Int) (a0_5 a0_6 a0_7 a0_8 : Bool) (a0_9 : List (den rng)) (a0_10 : List (den (.int .u8))) (K : A × List (List Leaf) → Option β) : evalF (F41_E k) Try.f41 (F41_a a0_0 a0_1 a0_2 a0_3 a0_4 a0_5 a0_6 a0_7 a0_8 a0_9 a0_10) K = (F41 k a0_0 a0_1 a0_2 a0_3 a0_4 a0_5 a0_6 a0_7 a0_8 a0_9 a0_10).bind fun r => K (F41_r r) := by
  rw [F41_st, F41]
  simp only [F41_T, bind_cond, Option.bind_assoc, Option.bind_some, Option.bind_none, Option.bind_fun_some]
theorem F41_tOk (k : Nat) : TabFn Try.prog (F41_t k) := .ent (F62_q k) F62_f (.ent (F63_q k) F63_f (.none))
theorem F41_con (k : Nat) (a0_0 a0_1 a0_2 a0_3 a0_4 : Int) (a0_5 a0_6 a0_7 a0_8 : Bool) (a0_9 : List (den rng)) (a0_10 : List (den (.int .u8))) : Contract Try.prog 41 (F41_a a0_0 a0_1 a0_2 a0_3 a0_4 a0_5 a0_6 a0_7 a0_8 a0_9 a0_10) ⟨F41 k a0_0 a0_1 a0_2 a0_3 a0_4 a0_5 a0_6 a0_7 a0_8 a0_9 a0_10, F41_r⟩ := con_of (envOk (F41_tOk k) _ _ _ _) mixed Try.func41 rfl rfl (F41_ev k a0_0 a0_1 a0_2 a0_3 a0_4 a0_5 a0_6 a0_7 a0_8 a0_9 a0_10 some)
def F41_sh : List AK := [.agg [.l (.int .i64), .l (.int .i64), .l (.int .i64), .l (.int .i64), .l (.int .i64), .l (.bool), .l (.bool), .l (.bool), .l (.bool), .l (.sl .ro rng), .l (.sl .ro (.int .u8))]]
def F41_p (k : Nat) : List Arg → Option CR := cle F41_sh fun x => ⟨F41 k x.1.1 x.1.2.1 x.1.2.2.1 x.1.2.2.2.1 x.1.2.2.2.2.1 x.1.2.2.2.2.2.1 x.1.2.2.2.2.2.2.1 x.1.2.2.2.2.2.2.2.1 x.1.2.2.2.2.2.2.2.2.1 x.1.2.2.2.2.2.2.2.2.2.1 x.1.2.2.2.2.2.2.2.2.2.2.1, F41_r⟩
theorem F41_q (k : Nat) : ∀ xs cr, F41_p k xs = some cr → Contract Try.prog 41 xs cr := cle_ok fun x => F41_con k _ _ _ _ _ _ _ _ _ _ _
theorem F41_f : FnOk Try.prog 41 := .of (by kernel_rfl)
/-! 15: loop.example/netstack/laws.toSegmentS -/
def F15_h : Nat → Hint
  | 0 => ⟨[(0, .plain), (3, .plain), (4, .plain)], [(7000, .plain)]⟩
  | _ => ⟨[], []⟩
def F15_t (k : Nat) : Tab := entT 41 (F41_p k) <| noTab
abbrev F15_E (k : Nat) : Env := env (F15_t k) F15_h .own [] k
abbrev F15_a (a0 : List (den seg)) : List Arg := [.one (.l (.s .ro seg a0))]
def F15_r (r : List (den seg)) : A × List (List Leaf) := (.one (.s .own seg r), [])
def F15_s0 (a0 : List (den seg)) (x4_0 : Int) (m7000_0 : List (den seg)) : St := ⟨(.one (.s .ro seg a0)) :: (.one .d) :: (.one .d) :: (.one (.a (.cell 7000) 0 0 none)) :: (.one (.v (.int .i64 x4_0))) :: dz 18 [], [(7000, ⟨.s .own seg m7000_0, 0, 0⟩)]⟩
def F15_l0_T {β : Type} (k : Nat) (a0 : List (den seg)) (NX : Int → List (den seg) → Option β) (RET : List (den seg) → Option β) (x4_0 : Int) (m7000_0 : List (den seg)) : Option β := cond (decide (x4_0 < ((a0.length : Nat) : Int))) (cond (decide (0 ≤ x4_0)) (cond (decide (x4_0 < ((a0.length : Nat) : Int))) ((F41 k ((atI a0 x4_0).1) (((atI a0 x4_0).2).1) ((((atI a0 x4_0).2).2).1) (((((atI a0 x4_0).2).2).2).1) ((((((atI a0 x4_0).2).2).2).2).1) (((((((atI a0 x4_0).2).2).2).2).2).1) ((((((((atI a0 x4_0).2).2).2).2).2).2).1) (((((((((atI a0 x4_0).2).2).2).2).2).2).2).1) ((((((((((atI a0 x4_0).2).2).2).2).2).2).2).2).1) (((((((((((atI a0 x4_0).2).2).2).2).2).2).2).2).2).1) (((((((((((atI a0 x4_0).2).2).2).2).2).2).2).2).2).2)).bind fun b1 => cond (decide (0 ≤ x4_0)) (cond (decide (x4_0 < ((m7000_0.length : Nat) : Int))) (NX (IntKind.i64.wrap (x4_0 + 1)) (m7000_0.set x4_0.toNat b1)) none) none) none) none) (RET m7000_0)
def F15_l0 (k : Nat) (a0 : List (den seg)) : Nat → Int → List (den seg) → Option (List (den seg))
  | 0, _, _ => none
  | n + 1, x4_0, m7000_0 => F15_l0_T k a0 (fun x4_0 m7000_0 => F15_l0 k a0 n x4_0 m7000_0) some x4_0 m7000_0
theorem F15_l0_rd {β : Type} (k n : Nat) (a0 : List (den seg)) (x4_0 : Int) (m7000_0 : List (den seg)) (K : A × List (List Leaf) → Option β) :
    loopG (F15_E k) Try.f15 [1, 1, 0, 1, 0] 0 (kontAt (F15_E k) [1, 1, 0, 1, 0] (bodyOf Try.f15) 0 (endC (F15_E k) Try.f15 (F15_a a0) K)) (n + 1) (F15_s0 a0 x4_0 m7000_0) =
    F15_l0_T k a0 (fun x4_0 m7000_0 => loopG (F15_E k) Try.f15 [1, 1, 0, 1, 0] 0 (kontAt (F15_E k) [1, 1, 0, 1, 0] (bodyOf Try.f15) 0 (endC (F15_E k) Try.f15 (F15_a a0) K)) n (F15_s0 a0 x4_0 m7000_0)) (fun r => K (F15_r r)) x4_0 m7000_0 := by kernel_rfl
theorem F15_l0_lp {β : Type} (k : Nat) (a0 : List (den seg)) (K : A × List (List Leaf) → Option β) (n : Nat) : ∀ (x4_0 : Int) (m7000_0 : List (den seg)), loopG (F15_E k) Try.f15 [1, 1, 0, 1, 0] 0 (kontAt (F15_E k) [1, 1, 0, 1, 0] (bodyOf Try.f15) 0 (endC (F15_E k) Try.f15 (F15_a a0) K)) n (F15_s0 a0 x4_0 m7000_0) =
    (F15_l0 k a0 n x4_0 m7000_0).bind fun r => K (F15_r r) := by
  induction n with
  | zero => intros; rfl
  | succ n ih =>
    intros
    rw [F15_l0_rd, F15_l0]
    simp only [F15_l0_T, bind_cond, Option.bind_assoc, Option.bind_some, Option.bind_none, Option.bind_fun_some, ih]
def F15_T {β : Type} (k : Nat) (a0 : List (den seg)) (LP0 : Int → List (den seg) → Option β) : Option β := cond (decide (0 ≤ ((a0.length : Nat) : Int)) && decide (((a0.length : Nat) : Int) = ((a0.length : Nat) : Int)) && decide (((a0.length : Nat) : Int) * (96 : Nat) ≤ 140737488355328)) (LP0 0 (List.replicate (((a0.length : Nat) : Int).toNat) (dflt seg))) none
def F15 (k : Nat) (a0 : List (den seg)) : Option (List (den seg)) := F15_T k a0 (fun x4_0 m7000_0 => F15_l0 k a0 k x4_0 m7000_0)
theorem F15_st {β : Type} (k : Nat) (a0 : List (den seg)) (K : A × List (List Leaf) → Option β) : evalF (F15_E k) Try.f15 (F15_a a0) K =
    F15_T k a0 (fun x4_0 m7000_0 => loopG (F15_E k) Try.f15 [1, 1, 0, 1, 0] 0 (kontAt (F15_E k) [1, 1, 0, 1, 0] (bodyOf Try.f15) 0 (endC (F15_E k) Try.f15 (F15_a a0) K)) k (F15_s0 a0 x4_0 m7000_0)) := by kernel_rfl
theorem F15_ev {β : Type} (k : Nat) (a0 : List (den seg)) (K : A × List (List Leaf) → Option β) : evalF (F15_E k) Try.f15 (F15_a a0) K = (F15 k a0).bind fun r => K (F15_r r) := by
  rw [F15_st, F15]
  simp only [F15_T, bind_cond, Option.bind_assoc, Option.bind_some, Option.bind_none, Option.bind_fun_some, F15_l0_lp]
theorem F15_tOk (k : Nat) : TabFn Try.prog (F15_t k) := .ent (F41_q k) F41_f (.none)
theorem F15_con (k : Nat) (a0 : List (den seg)) : Contract Try.prog 15 (F15_a a0) ⟨F15 k a0, F15_r⟩ := con_of (envOk (F15_tOk k) _ _ _ _) mixed Try.func15 rfl rfl (F15_ev k a0 some)
def F15_sh : List AK := [.one (.l (.sl .ro seg))]
def F15_p (k : Nat) : List Arg → Option CR := cle F15_sh fun x => ⟨F15 k x.1, F15_r⟩
theorem F15_q (k : Nat) : ∀ xs cr, F15_p k xs = some cr → Contract Try.prog 15 xs cr := cle_ok fun x => F15_con k _
theorem F15_f : FnOk Try.prog 15 := .of (by kernel_rfl)
/-! 49: loop.example/netstack/spec.l1In -/
abbrev F49_E (k : Nat) : Env := env noTab noHint .own [] k
abbrev F49_a (a0 a1 a2 : Int) : List Arg := [.one (.l (.v (.int .i64 a0))), .one (.l (.v (.int .i64 a1))), .one (.l (.v (.int .i64 a2)))]
def F49_r (r : Bool) : A × List (List Leaf) := (.one (.v (.bool r)), [])
def F49 (k : Nat) (a0 a1 a2 : Int) : Option (Bool) := cond (decide (a0 ≥ a1)) (some (decide (a0 ≤ a2))) (some false)
theorem F49_st {β : Type} (k : Nat) (a0 a1 a2 : Int) (K : A × List (List Leaf) → Option β) : evalF (F49_E k) Try.f49 (F49_a a0 a1 a2) K =
    cond (decide (a0 ≥ a1)) (K (.one (.v (.bool (decide (a0 ≤ a2)))), [])) (K (.one (.v (.bool false)), [])) := by kernel_rfl
theorem F49_ev {β : Type} (k : Nat) (a0 a1 a2 : Int) (K : A × List (List Leaf) → Option β) : evalF (F49_E k) Try.f49 (F49_a a0 a1 a2) K = (F49 k a0 a1 a2).bind fun r => K (F49_r r) := by
  rw [F49_st, F49]
  simp only [F49_r, bind_cond, Option.bind_assoc, Option.bind_some, Option.bind_none, Option.bind_fun_some]
theorem F49_con (k : Nat) (a0 a1 a2 : Int) : Contract Try.prog 49 (F49_a a0 a1 a2) ⟨F49 k a0 a1 a2, F49_r⟩ := con_of (envOk .none _ _ _ _) mixed Try.func49 rfl rfl (F49_ev k a0 a1 a2 some)
def F49_sh : List AK := [.one (.l (.int .i64)), .one (.l (.int .i64)), .one (.l (.int .i64))]
def F49_p (k : Nat) : List Arg → Option CR := cle F49_sh fun x => ⟨F49 k x.1 x.2.1 x.2.2.1, F49_r⟩
theorem F49_q (k : Nat) : ∀ xs cr, F49_p k xs = some cr → Contract Try.prog 49 xs cr := cle_ok fun x => F49_con k _ _ _
theorem F49_f : FnOk Try.prog 49 := .of (by kernel_rfl)
/-! 27: loop.example/netstack/spec.SegmentOk -/
def F27_h : Nat → Hint
  | 0 => ⟨[(1, .plain), (3, .plain)], [(1000, .plain), (1001, .plain), (1002, .plain), (1003, .plain), (1004, .plain), (1005, .plain), (1006, .plain), (1007, .plain), (1008, .plain), (1009, .plain), (1010, .plain)]⟩
  | _ => ⟨[], []⟩
def F27_t (k : Nat) : Tab := entT 49 (F49_p k) <| noTab
abbrev F27_E (k : Nat) : Env := env (F27_t k) F27_h .own [] k
abbrev F27_a (a0_0 a0_1 a0_2 a0_3 a0_4 : Int) (a0_5 a0_6 a0_7 a0_8 : Bool) (a0_9 : List (den rng)) (a0_10 : List (den (.int .u8))) : List Arg := [.agg [.l (.v (.int .i64 a0_0)), .l (.v (.int .i64 a0_1)), .l (.v (.int .i64 a0_2)), .l (.v (.int .i64 a0_3)), .l (.v (.int .i64 a0_4)), .l (.v (.bool a0_5)), .l (.v (.bool a0_6)), .l (.v (.bool a0_7)), .l (.v (.bool a0_8)), .l (.s .ro rng a0_9), .l (.s .ro (.int .u8) a0_10)]]
def F27_r (r : Bool) : A × List (List Leaf) := (.one (.v (.bool r)), [])
def F27_s0 (a0_0 a0_1 a0_2 a0_3 a0_4 : Int) (a0_5 a0_6 a0_7 a0_8 : Bool) (a0_9 : List (den rng)) (a0_10 : List (den (.int .u8))) (x3_0 : Int) : St := ⟨(.one .d) :: (.one (.ptr (.cell 1000) 11 0)) :: (.one .d) :: (.one (.v (.int .i64 x3_0))) :: dz 103 [], [(1000, ⟨.v (.int .i64 a0_0), 0, 0⟩), (1001, ⟨.v (.int .i64 a0_1), 0, 0⟩), (1002, ⟨.v (.int .i64 a0_2), 0, 0⟩), (1003, ⟨.v (.int .i64 a0_3), 0, 0⟩), (1004, ⟨.v (.int .i64 a0_4), 0, 0⟩), (1005, ⟨.v (.bool a0_5), 0, 0⟩), (1006, ⟨.v (.bool a0_6), 0, 0⟩), (1007, ⟨.v (.bool a0_7), 0, 0⟩), (1008, ⟨.v (.bool a0_8), 0, 0⟩), (1009, ⟨.s .ro rng a0_9, 0, 0⟩), (1010, ⟨.s .ro (.int .u8) a0_10, 0, 0⟩)]⟩
def F27_l0_T {β : Type} (k : Nat) (a0_0 a0_1 a0_2 a0_3 a0_4 : Int) (a0_5 a0_6 a0_7 a0_8 : Bool) (a0_9 : List (den rng)) (a0_10 : List (den (.int .u8))) (NX : Int → Option β) (RET : Bool → Option β) (x3_0 : Int) : Option β := cond (decide (x3_0 < ((a0_9.length : Nat) : Int))) (cond (decide (0 ≤ x3_0)) (cond (decide (x3_0 < ((a0_9.length : Nat) : Int))) ((F49 k ((atI a0_9 x3_0).1) 0 65535).bind fun b6 => cond (!b6) (RET false) (cond (decide (0 ≤ x3_0)) (cond (decide (x3_0 < ((a0_9.length : Nat) : Int))) ((F49 k ((atI a0_9 x3_0).2) 0 65535).bind fun b7 => cond (!b7) (RET false) (NX (IntKind.i64.wrap (x3_0 + 1)))) none) none)) none) none) (cond (!a0_6) (cond (a0_3 != 0) (RET false) (cond (a0_4 != 0) (RET false) (cond (decide (((a0_9.length : Nat) : Int) > 0)) (RET false) (cond (!a0_8) (RET true) (cond (!a0_5) (cond (!a0_7) (RET (((a0_10.length : Nat) : Int) == 0)) (RET false)) (RET false)))))) (cond (!a0_8) (RET true) (cond (!a0_5) (cond (!a0_7) (RET (((a0_10.length : Nat) : Int) == 0)) (RET false)) (RET false))))
def F27_l0 (k : Nat) (a0_0 a0_1 a0_2 a0_3 a0_4 : Int) (a0_5 a0_6 a0_7 a0_8 : Bool) (a0_9 : List (den rng)) (a0_10 : List (den (.int .u8))) : Nat → Int → Option (Bool)
  | 0, _ => none
  | n + 1, x3_0 => F27_l0_T k a0_0 a0_1 a0_2 a0_3 a0_4 a0_5 a0_6 a0_7 a0_8 a0_9 a0_10 (fun x3_0 => F27_l0 k a0_0 a0_1 a0_2 a0_3 a0_4 a0_5 a0_6 a0_7 a0_8 a0_9 a0_10 n x3_0) some x3_0
theorem F27_l0_rd {β : Type} (k n : Nat) (a0_0 a0_1 a0_2 a0_3 a0_4 : Int) (a0_5 a0_6 a0_7 a0_8 : Bool) (a0_9 : List (den rng)) (a0_10 : List (den (.int .u8))) (x3_0 : Int) (K : A × List (List Leaf) → Option β) :
    loopG (F27_E k) Try.f27 [1, 1, 0, 1, 0] 0 (kontAt (F27_E k) [1, 1, 0, 1, 0] (bodyOf Try.f27) 0 (endC (F27_E k) Try.f27 (F27_a a0_0 a0_1 a0_2 a0_3 a0_4 a0_5 a0_6 a0_7 a0_8 a0_9 a0_10) K)) (n + 1) (F27_s0 a0_0 a0_1 a0_2 a0_3 a0_4 a0_5 a0_6 a0_7 a0_8 a0_9 a0_10 x3_0) =
    F27_l0_T k a0_0 a0_1 a0_2 a0_3 a0_4 a0_5 a0_6 a0_7 a0_8 a0_9 a0_10 (fun x3_0 => loopG (F27_E k) Try.f27 [1, 1, 0, 1, 0] 0 (kontAt (F27_E k) [1, 1, 0, 1, 0] (bodyOf Try.f27) 0 (endC (F27_E k) Try.f27 (F27_a a0_0 a0_1 a0_2 a0_3 a0_4 a0_5 a0_6 a0_7 a0_8 a0_9 a0_10) K)) n (F27_s0 a0_0 a0_1 a0_2 a0_3 a0_4 a0_5 a0_6 a0_7 a0_8 a0_9 a0_10 x3_0)) (fun r => K (F27_r r)) x3_0 := by kernel_rfl
theorem F27_l0_lp {β : Type} (k : Nat) (a0_0 a0_1 a0_2 a0_3 a0_4 : Int) (a0_5 a0_6 a0_7 a0_8 : Bool) (a0_9 : List (den rng)) (a0_10 : List (den (.int .u8))) (K : A × List (List Leaf) → Option β) (n : Nat) : ∀ (x3_0 : Int), loopG (F27_E k) Try.f27 [1, 1, 0, 1, 0] 0 (kontAt (F27_E k) [1, 1, 0, 1, 0] (bodyOf Try.f27) 0 (endC (F27_E k) Try.f27 (F27_a a0_0 a0_1 a0_2 a0_3 a0_4 a0_5 a0_6 a0_7 a0_8 a0_9 a0_10) K)) n (F27_s0 a0_0 a0_1 a0_2 a0_3 a0_4 a0_5 a0_6 a0_7 a0_8 a0_9 a0_10 x3_0) =
    (F27_l0 k a0_0 a0_1 a0_2 a0_3 a0_4 a0_5 a0_6 a0_7 a0_8 a0_9 a0_10 n x3_0).bind fun r => K (F27_r r) := by
  induction n with
  | zero => intros; rfl
  | succ n ih =>
    intros
    rw [F27_l0_rd, F27_l0]
    simp only [F27_l0_T, bind_cond, Option.bind_assoc, Option.bind_some, Option.bind_none, Option.bind_fun_some, ih]
def F27_T {β : Type} (k : Nat) (a0_0 a0_1 a0_2 a0_3 a0_4 : Int) (a0_5 a0_6 a0_7 a0_8 : Bool) (a0_9 : List (den rng)) (a0_10 : List (den (.int .u8))) (LP0 : Int → Option β) (RET : Bool → Option β) : Option β := (F49 k a0_0 1 255).bind fun b1 => cond (!b1) (RET false) ((F49 k a0_1 1 255).bind fun b2 => cond (!b2) (RET false) ((F49 k a0_2 0 65535).bind fun b3 => cond (!b3) (RET false) ((F49 k a0_3 0 65535).bind fun b4 => cond (!b4) (RET false) ((F49 k a0_4 0 255).bind fun b5 => cond (!b5) (RET false) (cond (decide (((a0_9.length : Nat) : Int) > 2)) (RET false) (cond (decide (((a0_10.length : Nat) : Int) > 12)) (RET false) (LP0 0)))))))
def F27 (k : Nat) (a0_0 a0_1 a0_2 a0_3 a0_4 : Int) (a0_5 a0_6 a0_7 a0_8 : Bool) (a0_9 : List (den rng)) (a0_10 : List (den (.int .u8))) : Option (Bool) := F27_T k a0_0 a0_1 a0_2 a0_3 a0_4 a0_5 a0_6 a0_7 a0_8 a0_9 a0_10 (fun x3_0 => F27_l0 k a0_0 a0_1 a0_2 a0_3 a0_4 a0_5 a0_6 a0_7 a0_8 a0_9 a0_10 k x3_0) some
theorem F27_st {β : Type} (k : Nat) (a0_0 a0_1 a0_2 a0_3 a0_4 : Int) (a0_5 a0_6 a0_7 a0_8 : Bool) (a0_9 : List (den rng)) (a0_10 : List (den (.int .u8))) (K : A × List (List Leaf) → Option β) : evalF (F27_E k) Try.f27 (F27_a a0_0 a0_1 a0_2 a0_3 a0_4 a0_5 a0_6 a0_7 a0_8 a0_9 a0_10) K =
    F27_T k a0_0 a0_1 a0_2 a0_3 a0_4 a0_5 a0_6 a0_7 a0_8 a0_9 a0_10 (fun x3_0 => loopG (F27_E k) Try.f27 [1, 1, 0, 1, 0] 0 (kontAt (F27_E k) [1, 1, 0, 1, 0] (bodyOf Try.f27) 0 (endC (F27_E k) Try.f27 (F27_a a0_0 a0_1 a0_2 a0_3 a0_4 a0_5 a0_6 a0_7 a0_8 a0_9 a0_10) K)) k (F27_s0 a0_0 a0_1 a0_2 a0_3 a0_4 a0_5 a0_6 a0_7 a0_8 a0_9 a0_10 x3_0)) (fun r => K (F27_r r)) := by kernel_rfl
theorem F27_ev {β : Type} (k : Nat) (a0_0 a0_1 a0_2 a0_3 a0_4 : Int) (a0_5 a0_6 a0_7 a0_8 : Bool) (a0_9 : List (den rng)) (a0_10 : List (den (.int .u8))) (K : A × List (List Leaf) → Option β) : evalF (F27_E k) Try.f27 (F27_a a0_0 a0_1 a0_2 a0_3 a0_4 a0_5 a0_6 a0_7 a0_8 a0_9 a0_10) K = (F27 k a0_0 a0_1 a0_2 a0_3 a0_4 a0_5 a0_6 a0_7 a0_8 a0_9 a0_10).bind fun r => K (F27_r r) := by
  rw [F27_st, F27]
  simp only [F27_T, bind_cond, Option.bind_assoc, Option.bind_some, Option.bind_none, Option.bind_fun_some, F27_l0_lp]
theorem F27_tOk (k : Nat) : TabFn Try.prog (F27_t k) := .ent (F49_q k) F49_f (.none)
theorem F27_con (k : Nat) (a0_0 a0_1 a0_2 a0_3 a0_4 : Int) (a0_5 a0_6 a0_7 a0_8 : Bool) (a0_9 : List (den rng)) (a0_10 : List (den (.int .u8))) : Contract Try.prog 27 (F27_a a0_0 a0_1 a0_2 a0_3 a0_4 a0_5 a0_6 a0_7 a0_8 a0_9 a0_10) ⟨F27 k a0_0 a0_1 a0_2 a0_3 a0_4 a0_5 a0_6 a0_7 a0_8 a0_9 a0_10, F27_r⟩ := con_of (envOk (F27_tOk k) _ _ _ _) mixed Try.func27 rfl rfl (F27_ev k a0_0 a0_1 a0_2 a0_3 a0_4 a0_5 a0_6 a0_7 a0_8 a0_9 a0_10 some)
def F27_sh : List AK := [.agg [.l (.int .i64), .l (.int .i64), .l (.int .i64), .l (.int .i64), .l (.int .i64), .l (.bool), .l (.bool), .l (.bool), .l (.bool), .l (.sl .ro rng), .l (.sl .ro (.int .u8))]]
def F27_p (k : Nat) : List Arg → Option CR := cle F27_sh fun x => ⟨F27 k x.1.1 x.1.2.1 x.1.2.2.1 x.1.2.2.2.1 x.1.2.2.2.2.1 x.1.2.2.2.2.2.1 x.1.2.2.2.2.2.2.1 x.1.2.2.2.2.2.2.2.1 x.1.2.2.2.2.2.2.2.2.1 x.1.2.2.2.2.2.2.2.2.2.1 x.1.2.2.2.2.2.2.2.2.2.2.1, F27_r⟩
theorem F27_q (k : Nat) : ∀ xs cr, F27_p k xs = some cr → Contract Try.prog 27 xs cr := cle_ok fun x => F27_con k _ _ _ _ _ _ _ _ _ _ _
theorem F27_f : FnOk Try.prog 27 := .of (by kernel_rfl)
/-! 55: loop.example/netstack/spec.l21Same -/
def F55_h : Nat → Hint
  | 0 => ⟨[(2, .plain), (3, .plain), (5, .plain)], [(2000, .plain), (2001, .plain), (2002, .plain), (2003, .plain), (2004, .plain), (2005, .plain), (2006, .plain), (2007, .plain), (2008, .plain), (2009, .plain), (2010, .plain), (3000, .plain), (3001, .plain), (3002, .plain), (3003, .plain), (3004, .plain), (3005, .plain), (3006, .plain), (3007, .plain), (3008, .plain), (3009, .plain), (3010, .plain)]⟩
  | _ => ⟨[], []⟩
abbrev F55_E (k : Nat) : Env := env noTab F55_h .own [] k
abbrev F55_a (a0_0 a0_1 a0_2 a0_3 a0_4 : Int) (a0_5 a0_6 a0_7 a0_8 : Bool) (a0_9 : List (den rng)) (a0_10 : List (den (.int .u8))) (a1_0 a1_1 a1_2 a1_3 a1_4 : Int) (a1_5 a1_6 a1_7 a1_8 : Bool) (a1_9 : List (den rng)) (a1_10 : List (den (.int .u8))) : List Arg := [.agg [.l (.v (.int .i64 a0_0)), .l (.v (.int .i64 a0_1)), .l (.v (.int .i64 a0_2)), .l (.v (.int .i64 a0_3)), .l (.v (.int .i64 a0_4)), .l (.v (.bool a0_5)), .l (.v (.bool a0_6)), .l (.v (.bool a0_7)), .l (.v (.bool a0_8)), .l (.s .ro rng a0_9), .l (.s .ro (.int .u8) a0_10)], .agg [.l (.v (.int .i64 a1_0)), .l (.v (.int .i64 a1_1)), .l (.v (.int .i64 a1_2)), .l (.v (.int .i64 a1_3)), .l (.v (.int .i64 a1_4)), .l (.v (.bool a1_5)), .l (.v (.bool a1_6)), .l (.v (.bool a1_7)), .l (.v (.bool a1_8)), .l (.s .ro rng a1_9), .l (.s .ro (.int .u8) a1_10)]]
def F55_r (r : Bool) : A × List (List Leaf) := (.one (.v (.bool r)), [])
def F55_s0 (a0_0 a0_1 a0_2 a0_3 a0_4 : Int) (a0_5 a0_6 a0_7 a0_8 : Bool) (a0_9 : List (den rng)) (a0_10 : List (den (.int .u8))) (a1_0 a1_1 a1_2 a1_3 a1_4 : Int) (a1_5 a1_6 a1_7 a1_8 : Bool) (a1_9 : List (den rng)) (a1_10 : List (den (.int .u8))) (x5_0 : Int) : St := ⟨(.one .d) :: (.one .d) :: (.one (.ptr (.cell 2000) 11 0)) :: (.one (.ptr (.cell 3000) 11 0)) :: (.one .d) :: (.one (.v (.int .i64 x5_0))) :: dz 60 [], [(2000, ⟨.v (.int .i64 a0_0), 0, 0⟩), (2001, ⟨.v (.int .i64 a0_1), 0, 0⟩), (2002, ⟨.v (.int .i64 a0_2), 0, 0⟩), (2003, ⟨.v (.int .i64 a0_3), 0, 0⟩), (2004, ⟨.v (.int .i64 a0_4), 0, 0⟩), (2005, ⟨.v (.bool a0_5), 0, 0⟩), (2006, ⟨.v (.bool a0_6), 0, 0⟩), (2007, ⟨.v (.bool a0_7), 0, 0⟩), (2008, ⟨.v (.bool a0_8), 0, 0⟩), (2009, ⟨.s .ro rng a0_9, 0, 0⟩), (2010, ⟨.s .ro (.int .u8) a0_10, 0, 0⟩), (3000, ⟨.v (.int .i64 a1_0), 0, 0⟩), (3001, ⟨.v (.int .i64 a1_1), 0, 0⟩), (3002, ⟨.v (.int .i64 a1_2), 0, 0⟩), (3003, ⟨.v (.int .i64 a1_3), 0, 0⟩), (3004, ⟨.v (.int .i64 a1_4), 0, 0⟩), (3005, ⟨.v (.bool a1_5), 0, 0⟩), (3006, ⟨.v (.bool a1_6), 0, 0⟩), (3007, ⟨.v (.bool a1_7), 0, 0⟩), (3008, ⟨.v (.bool a1_8), 0, 0⟩), (3009, ⟨.s .ro rng a1_9, 0, 0⟩), (3010, ⟨.s .ro (.int .u8) a1_10, 0, 0⟩)]⟩
def F55_l0_T {β : Type} (k : Nat) (a0_0 a0_1 a0_2 a0_3 a0_4 : Int) (a0_5 a0_6 a0_7 a0_8 : Bool) (a0_9 : List (den rng)) (a0_10 : List (den (.int .u8))) (a1_0 a1_1 a1_2 a1_3 a1_4 : Int) (a1_5 a1_6 a1_7 a1_8 : Bool) (a1_9 : List (den rng)) (a1_10 : List (den (.int .u8))) (NX : Int → Option β) (RET : Bool → Option β) (x5_0 : Int) : Option β := cond (decide (x5_0 < ((a0_9.length : Nat) : Int))) (cond (decide (0 ≤ x5_0)) (cond (decide (x5_0 < ((a0_9.length : Nat) : Int))) (cond (decide (0 ≤ x5_0)) (cond (decide (x5_0 < ((a1_9.length : Nat) : Int))) (cond (!(eqD rng (atI a0_9 x5_0) (atI a1_9 x5_0))) (RET false) (NX (IntKind.i64.wrap (x5_0 + 1)))) none) none) none) none) (RET true)
def F55_l0 (k : Nat) (a0_0 a0_1 a0_2 a0_3 a0_4 : Int) (a0_5 a0_6 a0_7 a0_8 : Bool) (a0_9 : List (den rng)) (a0_10 : List (den (.int .u8))) (a1_0 a1_1 a1_2 a1_3 a1_4 : Int) (a1_5 a1_6 a1_7 a1_8 : Bool) (a1_9 : List (den rng)) (a1_10 : List (den (.int .u8))) : Nat → Int → Option (Bool)
  | 0, _ => none
  | n + 1, x5_0 => F55_l0_T k a0_0 a0_1 a0_2 a0_3 a0_4 a0_5 a0_6 a0_7 a0_8 a0_9 a0_10 a1_0 a1_1 a1_2 a1_3 a1_4 a1_5 a1_6 a1_7 a1_8 a1_9 a1_10 (fun x5_0 => F55_l0 k a0_0 a0_1 a0_2 a0_3 a0_4 a0_5 a0_6 a0_7 a0_8 a0_9 a0_10 a1_0 a1_1 a1_2 a1_3 a1_4 a1_5 a1_6 a1_7 a1_8 a1_9 a1_10 n x5_0) some x5_0
theorem F55_l0_rd {β : Type} (k n : Nat) (a0_0 a0_1 a0_2 a0_3 a0_4 : Int) (a0_5 a0_6 a0_7 a0_8 : Bool) (a0_9 : List (den rng)) (a0_10 : List (den (.int .u8))) (a1_0 a1_1 a1_2 a1_3 a1_4 : Int) (a1_5 a1_6 a1_7 a1_8 : Bool) (a1_9 : List (den rng)) (a1_10 : List (den (.int .u8))) (x5_0 : Int) (K : A × List (List Leaf) → Option β) :
    loopG (F55_E k) Try.f55 [1, 1, 0, 1, 0] 0 (kontAt (F55_E k) [1, 1, 0, 1, 0] (bodyOf Try.f55) 0 (endC (F55_E k) Try.f55 (F55_a a0_0 a0_1 a0_2 a0_3 a0_4 a0_5 a0_6 a0_7 a0_8 a0_9 a0_10 a1_0 a1_1 a1_2 a1_3 a1_4 a1_5 a1_6 a1_7 a1_8 a1_9 a1_10) K)) (n + 1) (F55_s0 a0_0 a0_1 a0_2 a0_3 a0_4 a0_5 a0_6 a0_7 a0_8 a0_9 a0_10 a1_0 a1_1 a1_2 a1_3 a1_4 a1_5 a1_6 a1_7 a1_8 a1_9 a1_10 x5_0) =
    F55_l0_T k a0_0 a0_1 a0_2 a0_3 a0_4 a0_5 a0_6 a0_7 a0_8 a0_9 a0_10 a1_0 a1_1 a1_2 a1_3 a1_4 a1_5 a1_6 a1_7 a1_8 a1_9 a1_10 (fun x5_0 => loopG (F55_E k) Try.f55 [1, 1, 0, 1, 0] 0 (kontAt (F55_E k) [1, 1, 0, 1, 0] (bodyOf Try.f55) 0 (endC (F55_E k) Try.f55 (F55_a a0_0 a0_1 a0_2 a0_3 a0_4 a0_5 a0_6 a0_7 a0_8 a0_9 a0_10 a1_0 a1_1 a1_2 a1_3 a1_4 a1_5 a1_6 a1_7 a1_8 a1_9 a1_10) K)) n (F55_s0 a0_0 a0_1 a0_2 a0_3 a0_4 a0_5 a0_6 a0_7 a0_8 a0_9 a0_10 a1_0 a1_1 a1_2 a1_3 a1_4 a1_5 a1_6 a1_7 a1_8 a1_9 a1_10 x5_0)) (fun r => K (F55_r r)) x5_0 := by kernel_rfl
theorem F55_l0_lp {β : Type} (k : Nat) (a0_0 a0_1 a0_2 a0_3 a0_4 : Int) (a0_5 a0_6 a0_7 a0_8 : Bool) (a0_9 : List (den rng)) (a0_10 : List (den (.int .u8))) (a1_0 a1_1 a1_2 a1_3 a1_4 : Int) (a1_5 a1_6 a1_7 a1_8 : Bool) (a1_9 : List (den rng)) (a1_10 : List (den (.int .u8))) (K : A × List (List Leaf) → Option β) (n : Nat) : ∀ (x5_0 : Int), loopG (F55_E k) Try.f55 [1, 1, 0, 1, 0] 0 (kontAt (F55_E k) [1, 1, 0, 1, 0] (bodyOf Try.f55) 0 (endC (F55_E k) Try.f55 (F55_a a0_0 a0_1 a0_2 a0_3 a0_4 a0_5 a0_6 a0_7 a0_8 a0_9 a0_10 a1_0 a1_1 a1_2 a1_3 a1_4 a1_5 a1_6 a1_7 a1_8 a1_9 a1_10) K)) n (F55_s0 a0_0 a0_1 a0_2 a0_3 a0_4 a0_5 a0_6 a0_7 a0_8 a0_9 a0_10 a1_0 a1_1 a1_2 a1_3 a1_4 a1_5 a1_6 a1_7 a1_8 a1_9 a1_10 x5_0) =
    (F55_l0 k a0_0 a0_1 a0_2 a0_3 a0_4 a0_5 a0_6 a0_7 a0_8 a0_9 a0_10 a1_0 a1_1 a1_2 a1_3 a1_4 a1_5 a1_6 a1_7 a1_8 a1_9 a1_10 n x5_0).bind fun r => K (F55_r r) := by
  induction n with
  | zero => intros; rfl
  | succ n ih =>
    intros
    rw [F55_l0_rd, F55_l0]
    simp only [F55_l0_T, bind_cond, Option.bind_assoc, Option.bind_some, Option.bind_none, Option.bind_fun_some, ih]
def F55_T {β : Type} (k : Nat) (a0_0 a0_1 a0_2 a0_3 a0_4 : Int) (a0_5 a0_6 a0_7 a0_8 : Bool) (a0_9 : List (den rng)) (a0_10 : List (den (.int .u8))) (a1_0 a1_1 a1_2 a1_3 a1_4 : Int) (a1_5 a1_6 a1_7 a1_8 : Bool) (a1_9 : List (den rng)) (a1_10 : List (den (.int .u8))) (LP0 : Int → Option β) (RET : Bool → Option β) : Option β := cond (a0_0 != a1_0) (RET false) (cond (a0_1 != a1_1) (RET false) (cond (!(a0_6 == a1_6)) (RET false) (cond (a0_3 != a1_3) (RET false) (cond (a0_4 != a1_4) (RET false) (cond (((a0_9.length : Nat) : Int) != ((a1_9.length : Nat) : Int)) (RET false) (LP0 0))))))
def F55 (k : Nat) (a0_0 a0_1 a0_2 a0_3 a0_4 : Int) (a0_5 a0_6 a0_7 a0_8 : Bool) (a0_9 : List (den rng)) (a0_10 : List (den (.int .u8))) (a1_0 a1_1 a1_2 a1_3 a1_4 : Int) (a1_5 a1_6 a1_7 a1_8 : Bool) (a1_9 : List (den rng)) (a1_10 : List (den (.int .u8))) : Option (Bool) := F55_T k a0_0 a0_1 a0_2 a0_3 a0_4 a0_5 a0_6 a0_7 a0_8 a0_9 a0_10 a1_0 a1_1 a1_2 a1_3 a1_4 a1_5 a1_6 a1_7 a1_8 a1_9 a1_10 (fun x5_0 => F55_l0 k a0_0 a0_1 a0_2 a0_3 a0_4 a0_5 a0_6 a0_7 a0_8 a0_9 a0_10 a1_0 a1_1 a1_2 a1_3 a1_4 a1_5 a1_6 a1_7 a1_8 a1_9 a1_10 k x5_0) some
theorem F55_st {β : Type} (k : Nat) (a0_0 a0_1 a0_2 a0_3 a0_4 : Int) (a0_5 a0_6 a0_7 a0_8 : Bool) (a0_9 : List (den rng)) (a0_10 : List (den (.int .u8))) (a1_0 a1_1 a1_2 a1_3 a1_4 : Int) (a1_5 a1_6 a1_7 a1_8 : Bool) (a1_9 : List (den rng)) (a1_10 : List (den (.int .u8))) (K : A × List (List Leaf) → Option β) : evalF (F55_E k) Try.f55 (F55_a a0_0 a0_1 a0_2 a0_3 a0_4 a0_5 a0_6 a0_7 a0_8 a0_9 a0_10 a1_0 a1_1 a1_2 a1_3 a1_4 a1_5 a1_6 a1_7 a1_8 a1_9 a1_10) K =
    F55_T k a0_0 a0_1 a0_2 a0_3 a0_4 a0_5 a0_6 a0_7 a0_8 a0_9 a0_10 a1_0 a1_1 a1_2 a1_3 a1_4 a1_5 a1_6 a1_7 a1_8 a1_9 a1_10 (fun x5_0 => loopG (F55_E k) Try.f55 [1, 1, 0, 1, 0] 0 (kontAt (F55_E k) [1, 1, 0, 1, 0] (bodyOf Try.f55) 0 (endC (F55_E k) Try.f55 (F55_a a0_0 a0_1 a0_2 a0_3 a0_4 a0_5 a0_6 a0_7 a0_8 a0_9 a0_10 a1_0 a1_1 a1_2 a1_3 a1_4 a1_5 a1_6 a1_7 a1_8 a1_9 a1_10) K)) k (F55_s0 a0_0 a0_1 a0_2 a0_3 a0_4 a0_5 a0_6 a0_7 a0_8 a0_9 a0_10 a1_0 a1_1 a1_2 a1_3 a1_4 a1_5 a1_6 a1_7 a1_8 a1_9 a1_10 x5_0)) (fun r => K (F55_r r)) := by kernel_rfl
theorem F55_ev {β : Type} (k : Nat) (a0_0 a0_1 a0_2 a0_3 a0_4 : Int) (a0_5 a0_6 a0_7 a0_8 : Bool) (a0_9 : List (den rng)) (a0_10 : List (den (.int .u8))) (a1_0 a1_1 a1_2 a1_3 a1_4 : Int) (a1_5 a1_6 a1_7 a1_8 : Bool) (a1_9 : List (den rng)) (a1_10 : List (den (.int .u8))) (K : A × List (List Leaf) → Option β) : evalF (F55_E k) Try.f55 (F55_a a0_0 a0_1 a0_2 a0_3 a0_4 a0_5 a0_6 a0_7 a0_8 a0_9 a0_10 a1_0 a1_1 a1_2 a1_3 a1_4 a1_5 a1_6 a1_7 a1_8 a1_9 a1_10) K = (F55 k a0_0 a0_1 a0_2 a0_3 a0_4 a0_5 a0_6 a0_7 a0_8 a0_9 a0_10 a1_0 a1_1 a1_2 a1_3 a1_4 a1_5 a1_6 a1_7 a1_8 a1_9 a1_10).bind fun r => K (F55_r r) := by
  rw [F55_st, F55]
  simp only [F55_T, bind_cond, Option.bind_assoc, Option.bind_some, Option.bind_none, Option.bind_fun_some, F55_l0_lp]
theorem F55_con (k : Nat) (a0_0 a0_1 a0_2 a0_3 a0_4 : Int) (a0_5 a0_6 a0_7 a0_8 : Bool) (a0_9 : List (den rng)) (a0_10 : List (den (.int .u8))) (a1_0 a1_1 a1_2 a1_3 a1_4 : Int) (a1_5 a1_6 a1_7 a1_8 : Bool) (a1_9 : List (den rng)) (a1_10 : List (den (.int .u8))) : Contract Try.prog 55 (F55_a a0_0 a0_1 a0_2 a0_3 a0_4 a0_5 a0_6 a0_7 a0_8 a0_9 a0_10 a1_0 a1_1 a1_2 a1_3 a1_4 a1_5 a1_6 a1_7 a1_8 a1_9 a1_10) ⟨F55 k a0_0 a0_1 a0_2 a0_3 a0_4 a0_5 a0_6 a0_7 a0_8 a0_9 a0_10 a1_0 a1_1 a1_2 a1_3 a1_4 a1_5 a1_6 a1_7 a1_8 a1_9 a1_10, F55_r⟩ := con_of (envOk .none _ _ _ _) mixed Try.func55 rfl rfl (F55_ev k a0_0 a0_1 a0_2 a0_3 a0_4 a0_5 a0_6 a0_7 a0_8 a0_9 a0_10 a1_0 a1_1 a1_2 a1_3 a1_4 a1_5 a1_6 a1_7 a1_8 a1_9 a1_10 some)
def F55_sh : List AK := [.agg [.l (.int .i64), .l (.int .i64), .l (.int .i64), .l (.int .i64), .l (.int .i64), .l (.bool), .l (.bool), .l (.bool), .l (.bool), .l (.sl .ro rng), .l (.sl .ro (.int .u8))], .agg [.l (.int .i64), .l (.int .i64), .l (.int .i64), .l (.int .i64), .l (.int .i64), .l (.bool), .l (.bool), .l (.bool), .l (.bool), .l (.sl .ro rng), .l (.sl .ro (.int .u8))]]
def F55_p (k : Nat) : List Arg → Option CR := cle F55_sh fun x => ⟨F55 k x.1.1 x.1.2.1 x.1.2.2.1 x.1.2.2.2.1 x.1.2.2.2.2.1 x.1.2.2.2.2.2.1 x.1.2.2.2.2.2.2.1 x.1.2.2.2.2.2.2.2.1 x.1.2.2.2.2.2.2.2.2.1 x.1.2.2.2.2.2.2.2.2.2.1 x.1.2.2.2.2.2.2.2.2.2.2.1 x.2.1.1 x.2.1.2.1 x.2.1.2.2.1 x.2.1.2.2.2.1 x.2.1.2.2.2.2.1 x.2.1.2.2.2.2.2.1 x.2.1.2.2.2.2.2.2.1 x.2.1.2.2.2.2.2.2.2.1 x.2.1.2.2.2.2.2.2.2.2.1 x.2.1.2.2.2.2.2.2.2.2.2.1 x.2.1.2.2.2.2.2.2.2.2.2.2.1, F55_r⟩
theorem F55_q (k : Nat) : ∀ xs cr, F55_p k xs = some cr → Contract Try.prog 55 xs cr := cle_ok fun x => F55_con k _ _ _ _ _ _ _ _ _ _ _ _ _ _ _ _ _ _ _ _ _ _
theorem F55_f : FnOk Try.prog 55 := .of (by kernel_rfl)
/-! 56: loop.example/netstack/spec.SegmentLong -/
abbrev F56_E (k : Nat) : Env := env noTab noHint .own [] k
abbrev F56_a (a0_0 a0_1 a0_2 a0_3 a0_4 : Int) (a0_5 a0_6 a0_7 a0_8 : Bool) (a0_9 : List (den rng)) (a0_10 : List (den (.int .u8))) : List Arg := [.agg [.l (.v (.int .i64 a0_0)), .l (.v (.int .i64 a0_1)), .l (.v (.int .i64 a0_2)), .l (.v (.int .i64 a0_3)), .l (.v (.int .i64 a0_4)), .l (.v (.bool a0_5)), .l (.v (.bool a0_6)), .l (.v (.bool a0_7)), .l (.v (.bool a0_8)), .l (.s .ro rng a0_9), .l (.s .ro (.int .u8) a0_10)]]
def F56_r (r : Int) : A × List (List Leaf) := (.one (.v (.int .i64 r)), [])
def F56_T {β : Type} (k : Nat) (a0_0 a0_1 a0_2 a0_3 a0_4 : Int) (a0_5 a0_6 a0_7 a0_8 : Bool) (a0_9 : List (den rng)) (a0_10 : List (den (.int .u8))) (RET : Int → Option β) : Option β := cond a0_5 (cond a0_7 (RET (IntKind.i64.wrap ((IntKind.i64.wrap (((a0_10.length : Nat) : Int) + 1)) + 1))) (RET (IntKind.i64.wrap (((a0_10.length : Nat) : Int) + 1)))) (cond a0_7 (RET (IntKind.i64.wrap (((a0_10.length : Nat) : Int) + 1))) (RET ((a0_10.length : Nat) : Int)))
def F56 (k : Nat) (a0_0 a0_1 a0_2 a0_3 a0_4 : Int) (a0_5 a0_6 a0_7 a0_8 : Bool) (a0_9 : List (den rng)) (a0_10 : List (den (.int .u8))) : Option (Int) := F56_T k a0_0 a0_1 a0_2 a0_3 a0_4 a0_5 a0_6 a0_7 a0_8 a0_9 a0_10 some
theorem F56_st {β : Type} (k : Nat) (a0_0 a0_1 a0_2 a0_3 a0_4 : Int) (a0_5 a0_6 a0_7 a0_8 : Bool) (a0_9 : List (den rng)) (a0_10 : List (den (.int .u8))) (K : A × List (List Leaf) → Option β) : evalF (F56_E k) Try.f56 (F56_a a0_0 a0_1 a0_2 a0_3 a0_4 a0_5 a0_6 a0_7 a0_8 a0_9 a0_10) K =
    F56_T k a0_0 a0_1 a0_2 a0_3 a0_4 a0_5 a0_6 a0_7 a0_8 a0_9 a0_10 (fun r => K (F56_r r)) := by kernel_rfl
theorem F56_ev {β : Type} (k : Nat) (a0_0 a0_1 a0_2 a0_3 a0_4 : Int) (a0_5 a0_6 a0_7 a0_8 : Bool) (a0_9 : List (den rng)) (a0_10 : List (den (.int .u8))) (K : A × List (List Leaf) → Option β) : evalF (F56_E k) Try.f56 (F56_a a0_0 a0_1 a0_2 a0_3 a0_4 a0_5 a0_6 a0_7 a0_8 a0_9 a0_10) K = (F56 k a0_0 a0_1 a0_2 a0_3 a0_4 a0_5 a0_6 a0_7 a0_8 a0_9 a0_10).bind fun r => K (F56_r r) := by
  rw [F56_st, F56]
  simp only [F56_T, bind_cond, Option.bind_assoc, Option.bind_some, Option.bind_none, Option.bind_fun_some]
theorem F56_con (k : Nat) (a0_0 a0_1 a0_2 a0_3 a0_4 : Int) (a0_5 a0_6 a0_7 a0_8 : Bool) (a0_9 : List (den rng)) (a0_10 : List (den (.int .u8))) : Contract Try.prog 56 (F56_a a0_0 a0_1 a0_2 a0_3 a0_4 a0_5 a0_6 a0_7 a0_8 a0_9 a0_10) ⟨F56 k a0_0 a0_1 a0_2 a0_3 a0_4 a0_5 a0_6 a0_7 a0_8 a0_9 a0_10, F56_r⟩ := con_of (envOk .none _ _ _ _) mixed Try.func56 rfl rfl (F56_ev k a0_0 a0_1 a0_2 a0_3 a0_4 a0_5 a0_6 a0_7 a0_8 a0_9 a0_10 some)
def F56_sh : List AK := [.agg [.l (.int .i64), .l (.int .i64), .l (.int .i64), .l (.int .i64), .l (.int .i64), .l (.bool), .l (.bool), .l (.bool), .l (.bool), .l (.sl .ro rng), .l (.sl .ro (.int .u8))]]
def F56_p (k : Nat) : List Arg → Option CR := cle F56_sh fun x => ⟨F56 k x.1.1 x.1.2.1 x.1.2.2.1 x.1.2.2.2.1 x.1.2.2.2.2.1 x.1.2.2.2.2.2.1 x.1.2.2.2.2.2.2.1 x.1.2.2.2.2.2.2.2.1 x.1.2.2.2.2.2.2.2.2.1 x.1.2.2.2.2.2.2.2.2.2.1 x.1.2.2.2.2.2.2.2.2.2.2.1, F56_r⟩
theorem F56_q (k : Nat) : ∀ xs cr, F56_p k xs = some cr → Contract Try.prog 56 xs cr := cle_ok fun x => F56_con k _ _ _ _ _ _ _ _ _ _ _
theorem F56_f : FnOk Try.prog 56 := .of (by kernel_rfl)
/-! 50: loop.example/netstack/spec.SeqOf -/
abbrev F50_E (k : Nat) : Env := env noTab noHint .own [] k
abbrev F50_a (a0 : Int) : List Arg := [.one (.l (.v (.int .i64 a0)))]
def F50_r (r : Int) : A × List (List Leaf) := (.one (.v (.int .i64 r)), [])
def F50 (k : Nat) (a0 : Int) : Option (Int) := cond (decide ((a0.tmod 65536) < 0)) (some (IntKind.i64.wrap ((a0.tmod 65536) + 65536))) (some (a0.tmod 65536))
theorem F50_st {β : Type} (k : Nat) (a0 : Int) (K : A × List (List Leaf) → Option β) : evalF (F50_E k) Try.f50 (F50_a a0) K =
    cond (decide ((a0.tmod 65536) < 0)) (K (.one (.v (.int .i64 (IntKind.i64.wrap ((a0.tmod 65536) + 65536)))), [])) (K (.one (.v (.int .i64 (a0.tmod 65536))), [])) := by kernel_rfl
theorem F50_ev {β : Type} (k : Nat) (a0 : Int) (K : A × List (List Leaf) → Option β) : evalF (F50_E k) Try.f50 (F50_a a0) K = (F50 k a0).bind fun r => K (F50_r r) := by
  rw [F50_st, F50]
  simp only [F50_r, bind_cond, Option.bind_assoc, Option.bind_some, Option.bind_none, Option.bind_fun_some]
theorem F50_con (k : Nat) (a0 : Int) : Contract Try.prog 50 (F50_a a0) ⟨F50 k a0, F50_r⟩ := con_of (envOk .none _ _ _ _) mixed Try.func50 rfl rfl (F50_ev k a0 some)
def F50_sh : List AK := [.one (.l (.int .i64))]
def F50_p (k : Nat) : List Arg → Option CR := cle F50_sh fun x => ⟨F50 k x.1, F50_r⟩
theorem F50_q (k : Nat) : ∀ xs cr, F50_p k xs = some cr → Contract Try.prog 50 xs cr := cle_ok fun x => F50_con k _
theorem F50_f : FnOk Try.prog 50 := .of (by kernel_rfl)
/-! 29: loop.example/netstack/spec.l21Copy -/
abbrev F29_E (k : Nat) : Env := env noTab noHint .own [] k
abbrev F29_a (a0_0 a0_1 a0_2 a0_3 a0_4 : Int) (a0_5 a0_6 a0_7 a0_8 : Bool) (a0_9 : List (den rng)) (a0_10 : List (den (.int .u8))) : List Arg := [.agg [.l (.v (.int .i64 a0_0)), .l (.v (.int .i64 a0_1)), .l (.v (.int .i64 a0_2)), .l (.v (.int .i64 a0_3)), .l (.v (.int .i64 a0_4)), .l (.v (.bool a0_5)), .l (.v (.bool a0_6)), .l (.v (.bool a0_7)), .l (.v (.bool a0_8)), .l (.s .ro rng a0_9), .l (.s .ro (.int .u8) a0_10)]]
def F29_r (r : Int × Int × Int × Int × Int × Bool × Bool × Bool × Bool × List (den rng) × List (den (.int .u8))) : A × List (List Leaf) := (.agg [.v (.int .i64 r.1), .v (.int .i64 r.2.1), .v (.int .i64 r.2.2.1), .v (.int .i64 r.2.2.2.1), .v (.int .i64 r.2.2.2.2.1), .v (.bool r.2.2.2.2.2.1), .v (.bool r.2.2.2.2.2.2.1), .v (.bool r.2.2.2.2.2.2.2.1), .v (.bool r.2.2.2.2.2.2.2.2.1), .s .own rng r.2.2.2.2.2.2.2.2.2.1, .s .own (.int .u8) r.2.2.2.2.2.2.2.2.2.2], [])
def F29_T {β : Type} (k : Nat) (a0_0 a0_1 a0_2 a0_3 a0_4 : Int) (a0_5 a0_6 a0_7 a0_8 : Bool) (a0_9 : List (den rng)) (a0_10 : List (den (.int .u8))) (RET : (Int × Int × Int × Int × Int × Bool × Bool × Bool × Bool × List (den rng) × List (den (.int .u8))) → Option β) : Option β := cond (decide ((([] : List (den rng)).length + a0_9.length) * 16 ≤ 140737488355328)) (cond (decide ((([] : List (den (.int .u8))).length + a0_10.length) * 1 ≤ 140737488355328)) (RET (a0_0, a0_1, a0_2, a0_3, a0_4, a0_5, a0_6, a0_7, a0_8, [] ++ a0_9, [] ++ a0_10)) none) none
def F29 (k : Nat) (a0_0 a0_1 a0_2 a0_3 a0_4 : Int) (a0_5 a0_6 a0_7 a0_8 : Bool) (a0_9 : List (den rng)) (a0_10 : List (den (.int .u8))) : Option (Int × Int × Int × Int × Int × Bool × Bool × Bool × Bool × List (den rng) × List (den (.int .u8))) := F29_T k a0_0 a0_1 a0_2 a0_3 a0_4 a0_5 a0_6 a0_7 a0_8 a0_9 a0_10 some
theorem F29_st {β : Type} (k : Nat) (a0_0 a0_1 a0_2 a0_3 a0_4 : Int) (a0_5 a0_6 a0_7 a0_8 : Bool) (a0_9 : List (den rng)) (a0_10 : List (den (.int .u8))) (K : A × List (List Leaf) → Option β) : evalF (F29_E k) Try.f29 (F29_a a0_0 a0_1 a0_2 a0_3 a0_4 a0_5 a0_6 a0_7 a0_8 a0_9 a0_10) K =
    F29_T k a0_0 a0_1 a0_2 a0_3 a0_4 a0_5 a0_6 a0_7 a0_8 a0_9 a0_10 (fun r => K (F29_r r)) := by kernel_rfl
theorem F29_ev {β : Type} (k : Nat) (a0_0 a0_1 a0_2 a0_3 a0_4 : Int) (a0_5 a0_6 a0_7 a0_8 : Bool) (a0_9 : List (den rng)) (a0_10 : List (den (.int .u8))) (K : A × List (List Leaf) → Option β) : evalF (F29_E k) Try.f29 (F29_a a0_0 a0_1 a0_2 a0_3 a0_4 a0_5 a0_6 a0_7 a0_8 a0_9 a0_10) K = (F29 k a0_0 a0_1 a0_2 a0_3 a0_4 a0_5 a0_6 a0_7 a0_8 a0_9 a0_10).bind fun r => K (F29_r r) := by
  rw [F29_st, F29]
  simp only [F29_T, bind_cond, Option.bind_assoc, Option.bind_some, Option.bind_none, Option.bind_fun_some]
theorem F29_con (k : Nat) (a0_0 a0_1 a0_2 a0_3 a0_4 : Int) (a0_5 a0_6 a0_7 a0_8 : Bool) (a0_9 : List (den rng)) (a0_10 : List (den (.int .u8))) : Contract Try.prog 29 (F29_a a0_0 a0_1 a0_2 a0_3 a0_4 a0_5 a0_6 a0_7 a0_8 a0_9 a0_10) ⟨F29 k a0_0 a0_1 a0_2 a0_3 a0_4 a0_5 a0_6 a0_7 a0_8 a0_9 a0_10, F29_r⟩ := con_of (envOk .none _ _ _ _) mixed Try.func29 rfl rfl (F29_ev k a0_0 a0_1 a0_2 a0_3 a0_4 a0_5 a0_6 a0_7 a0_8 a0_9 a0_10 some)
def F29_sh : List AK := [.agg [.l (.int .i64), .l (.int .i64), .l (.int .i64), .l (.int .i64), .l (.int .i64), .l (.bool), .l (.bool), .l (.bool), .l (.bool), .l (.sl .ro rng), .l (.sl .ro (.int .u8))]]
def F29_p (k : Nat) : List Arg → Option CR := cle F29_sh fun x => ⟨F29 k x.1.1 x.1.2.1 x.1.2.2.1 x.1.2.2.2.1 x.1.2.2.2.2.1 x.1.2.2.2.2.2.1 x.1.2.2.2.2.2.2.1 x.1.2.2.2.2.2.2.2.1 x.1.2.2.2.2.2.2.2.2.1 x.1.2.2.2.2.2.2.2.2.2.1 x.1.2.2.2.2.2.2.2.2.2.2.1, F29_r⟩
theorem F29_q (k : Nat) : ∀ xs cr, F29_p k xs = some cr → Contract Try.prog 29 xs cr := cle_ok fun x => F29_con k _ _ _ _ _ _ _ _ _ _ _
theorem F29_f : FnOk Try.prog 29 := .of (by kernel_rfl)
/-! 28: loop.example/netstack/spec.SegmentJoin -/
def F28_t (k : Nat) : Tab := entT 27 (F27_p k) <| entT 55 (F55_p k) <| entT 56 (F56_p k) <| entT 50 (F50_p k) <| entT 29 (F29_p k) <| noTab
abbrev F28_E (k : Nat) : Env := env (F28_t k) noHint .own [] k
abbrev F28_a (a0_0 a0_1 a0_2 a0_3 a0_4 : Int) (a0_5 a0_6 a0_7 a0_8 : Bool) (a0_9 : List (den rng)) (a0_10 : List (den (.int .u8))) (a1_0 a1_1 a1_2 a1_3 a1_4 : Int) (a1_5 a1_6 a1_7 a1_8 : Bool) (a1_9 : List (den rng)) (a1_10 : List (den (.int .u8))) : List Arg := [.agg [.l (.v (.int .i64 a0_0)), .l (.v (.int .i64 a0_1)), .l (.v (.int .i64 a0_2)), .l (.v (.int .i64 a0_3)), .l (.v (.int .i64 a0_4)), .l (.v (.bool a0_5)), .l (.v (.bool a0_6)), .l (.v (.bool a0_7)), .l (.v (.bool a0_8)), .l (.s .ro rng a0_9), .l (.s .ro (.int .u8) a0_10)], .agg [.l (.v (.int .i64 a1_0)), .l (.v (.int .i64 a1_1)), .l (.v (.int .i64 a1_2)), .l (.v (.int .i64 a1_3)), .l (.v (.int .i64 a1_4)), .l (.v (.bool a1_5)), .l (.v (.bool a1_6)), .l (.v (.bool a1_7)), .l (.v (.bool a1_8)), .l (.s .ro rng a1_9), .l (.s .ro (.int .u8) a1_10)]]
def F28_r (r : Int × Int × Int × Int × Int × Bool × Bool × Bool × Bool × List (den rng) × List (den (.int .u8)) × Bool) : A × List (List Leaf) := (.tup [(true, [.v (.int .i64 r.1), .v (.int .i64 r.2.1), .v (.int .i64 r.2.2.1), .v (.int .i64 r.2.2.2.1), .v (.int .i64 r.2.2.2.2.1), .v (.bool r.2.2.2.2.2.1), .v (.bool r.2.2.2.2.2.2.1), .v (.bool r.2.2.2.2.2.2.2.1), .v (.bool r.2.2.2.2.2.2.2.2.1), .s .own rng r.2.2.2.2.2.2.2.2.2.1, .s .own (.int .u8) r.2.2.2.2.2.2.2.2.2.2.1]), (false, [.v (.bool r.2.2.2.2.2.2.2.2.2.2.2)])], [])
def F28_T {β : Type} (k : Nat) (a0_0 a0_1 a0_2 a0_3 a0_4 : Int) (a0_5 a0_6 a0_7 a0_8 : Bool) (a0_9 : List (den rng)) (a0_10 : List (den (.int .u8))) (a1_0 a1_1 a1_2 a1_3 a1_4 : Int) (a1_5 a1_6 a1_7 a1_8 : Bool) (a1_9 : List (den rng)) (a1_10 : List (den (.int .u8))) (RET : (Int × Int × Int × Int × Int × Bool × Bool × Bool × Bool × List (den rng) × List (den (.int .u8)) × Bool) → Option β) : Option β := (F27 k a0_0 a0_1 a0_2 a0_3 a0_4 a0_5 a0_6 a0_7 a0_8 a0_9 a0_10).bind fun b1 => cond (!b1) (RET (0, 0, 0, 0, 0, false, false, false, false, [], [], false)) ((F27 k a1_0 a1_1 a1_2 a1_3 a1_4 a1_5 a1_6 a1_7 a1_8 a1_9 a1_10).bind fun b2 => cond (!b2) (RET (0, 0, 0, 0, 0, false, false, false, false, [], [], false)) ((F55 k a0_0 a0_1 a0_2 a0_3 a0_4 a0_5 a0_6 a0_7 a0_8 a0_9 a0_10 a1_0 a1_1 a1_2 a1_3 a1_4 a1_5 a1_6 a1_7 a1_8 a1_9 a1_10).bind fun b3 => cond (!b3) (RET (0, 0, 0, 0, 0, false, false, false, false, [], [], false)) (cond a0_8 (RET (0, 0, 0, 0, 0, false, false, false, false, [], [], false)) (cond a1_8 (RET (0, 0, 0, 0, 0, false, false, false, false, [], [], false)) (cond (((a0_10.length : Nat) : Int) == 0) (RET (0, 0, 0, 0, 0, false, false, false, false, [], [], false)) (cond (((a1_10.length : Nat) : Int) == 0) (RET (0, 0, 0, 0, 0, false, false, false, false, [], [], false)) (cond a0_7 (RET (0, 0, 0, 0, 0, false, false, false, false, [], [], false)) (cond a1_5 (RET (0, 0, 0, 0, 0, false, false, false, false, [], [], false)) ((F56 k a0_0 a0_1 a0_2 a0_3 a0_4 a0_5 a0_6 a0_7 a0_8 a0_9 a0_10).bind fun b4 => (F50 k (IntKind.i64.wrap (a0_2 + b4))).bind fun b5 => cond (a1_2 != b5) (RET (0, 0, 0, 0, 0, false, false, false, false, [], [], false)) (cond (decide ((IntKind.i64.wrap (((a0_10.length : Nat) : Int) + ((a1_10.length : Nat) : Int))) > 12)) (RET (0, 0, 0, 0, 0, false, false, false, false, [], [], false)) ((F29 k a0_0 a0_1 a0_2 a0_3 a0_4 a0_5 a0_6 a0_7 a0_8 a0_9 a0_10).bind fun b6 => cond (decide ((b6.2.2.2.2.2.2.2.2.2.2.length + a1_10.length) * 1 ≤ 140737488355328)) (RET (b6.1, b6.2.1, b6.2.2.1, b6.2.2.2.1, b6.2.2.2.2.1, b6.2.2.2.2.2.1, b6.2.2.2.2.2.2.1, a1_7, b6.2.2.2.2.2.2.2.2.1, b6.2.2.2.2.2.2.2.2.2.1, b6.2.2.2.2.2.2.2.2.2.2 ++ a1_10, true)) none)))))))))))
def F28 (k : Nat) (a0_0 a0_1 a0_2 a0_3 a0_4 : Int) (a0_5 a0_6 a0_7 a0_8 : Bool) (a0_9 : List (den rng)) (a0_10 : List (den (.int .u8))) (a1_0 a1_1 a1_2 a1_3 a1_4 : Int) (a1_5 a1_6 a1_7 a1_8 : Bool) (a1_9 : List (den rng)) (a1_10 : List (den (.int .u8))) : Option (Int × Int × Int × Int × Int × Bool × Bool × Bool × Bool × List (den rng) × List (den (.int .u8)) × Bool) := F28_T k a0_0 a0_1 a0_2 a0_3 a0_4 a0_5 a0_6 a0_7 a0_8 a0_9 a0_10 a1_0 a1_1 a1_2 a1_3 a1_4 a1_5 a1_6 a1_7 a1_8 a1_9 a1_10 some
theorem F28_st {β : Type} (k : Nat) (a0_0 a0_1 a0_2 a0_3 a0_4 : Int) (a0_5 a0_6 a0_7 a0_8 : Bool) (a0_9 : List (den rng)) (a0_10 : List (den (.int .u8))) (a1_0 a1_1 a1_2 a1_3 a1_4 : Int) (a1_5 a1_6 a1_7 a1_8 : Bool) (a1_9 : List (den rng)) (a1_10 : List (den (.int .u8))) (K : A × List (List Leaf) → Option β) : evalF (F28_E k) Try.f28 (F28_a a0_0 a0_1 a0_2 a0_3 a0_4 a0_5 a0_6 a0_7 a0_8 a0_9 a0_10 a1_0 a1_1 a1_2 a1_3 a1_4 a1_5 a1_6 a1_7 a1_8 a1_9 a1_10) K =
    F28_T k a0_0 a0_1 a0_2 a0_3 a0_4 a0_5 a0_6 a0_7 a0_8 a0_9 a0_10 a1_0 a1_1 a1_2 a1_3 a1_4 a1_5 a1_6 a1_7 a1_8 a1_9 a1_10 (fun r => K (F28_r r)) := by kernel_rfl
theorem F28_ev {β : Type} (k : Nat) (a0_0 a0_1 a0_2 a0_3 a0_4 : Int) (a0_5 a0_6 a0_7 a0_8 : Bool) (a0_9 : List (den rng)) (a0_10 : List (den (.int .u8))) (a1_0 a1_1 a1_2 a1_3 a1_4 : Int) (a1_5 a1_6 a1_7 a1_8 : Bool) (a1_9 : List (den rng)) (a1_10 : List (den (.int .u8))) (K : A × List (List Leaf) → Option β) : evalF (F28_E k) Try.f28 (F28_a a0_0 a0_1 a0_2 a0_3 a0_4 a0_5 a0_6 a0_7 a0_8 a0_9 a0_10 a1_0 a1_1 a1_2 a1_3 a1_4 a1_5 a1_6 a1_7 a1_8 a1_9 a1_10) K = (F28 k a0_0 a0_1 a0_2 a0_3 a0_4 a0_5 a0_6 a0_7 a0_8 a0_9 a0_10 a1_0 a1_1 a1_2 a1_3 a1_4 a1_5 a1_6 a1_7 a1_8 a1_9 a1_10).bind fun r => K (F28_r r) := by
  rw [F28_st, F28]
  simp only [F28_T, bind_cond, Option.bind_assoc, Option.bind_some, Option.bind_none, Option.bind_fun_some]
theorem F28_tOk (k : Nat) : TabFn Try.prog (F28_t k) := .ent (F27_q k) F27_f (.ent (F55_q k) F55_f (.ent (F56_q k) F56_f (.ent (F50_q k) F50_f (.ent (F29_q k) F29_f (.none)))))
theorem F28_con (k : Nat) (a0_0 a0_1 a0_2 a0_3 a0_4 : Int) (a0_5 a0_6 a0_7 a0_8 : Bool) (a0_9 : List (den rng)) (a0_10 : List (den (.int .u8))) (a1_0 a1_1 a1_2 a1_3 a1_4 : Int) (a1_5 a1_6 a1_7 a1_8 : Bool) (a1_9 : List (den rng)) (a1_10 : List (den (.int .u8))) : Contract Try.prog 28 (F28_a a0_0 a0_1 a0_2 a0_3 a0_4 a0_5 a0_6 a0_7 a0_8 a0_9 a0_10 a1_0 a1_1 a1_2 a1_3 a1_4 a1_5 a1_6 a1_7 a1_8 a1_9 a1_10) ⟨F28 k a0_0 a0_1 a0_2 a0_3 a0_4 a0_5 a0_6 a0_7 a0_8 a0_9 a0_10 a1_0 a1_1 a1_2 a1_3 a1_4 a1_5 a1_6 a1_7 a1_8 a1_9 a1_10, F28_r⟩ := con_of (envOk (F28_tOk k) _ _ _ _) mixed Try.func28 rfl rfl (F28_ev k a0_0 a0_1 a0_2 a0_3 a0_4 a0_5 a0_6 a0_7 a0_8 a0_9 a0_10 a1_0 a1_1 a1_2 a1_3 a1_4 a1_5 a1_6 a1_7 a1_8 a1_9 a1_10 some)
def F28_sh : List AK := [.agg [.l (.int .i64), .l (.int .i64), .l (.int .i64), .l (.int .i64), .l (.int .i64), .l (.bool), .l (.bool), .l (.bool), .l (.bool), .l (.sl .ro rng), .l (.sl .ro (.int .u8))], .agg [.l (.int .i64), .l (.int .i64), .l (.int .i64), .l (.int .i64), .l (.int .i64), .l (.bool), .l (.bool), .l (.bool), .l (.bool), .l (.sl .ro rng), .l (.sl .ro (.int .u8))]]
def F28_p (k : Nat) : List Arg → Option CR := cle F28_sh fun x => ⟨F28 k x.1.1 x.1.2.1 x.1.2.2.1 x.1.2.2.2.1 x.1.2.2.2.2.1 x.1.2.2.2.2.2.1 x.1.2.2.2.2.2.2.1 x.1.2.2.2.2.2.2.2.1 x.1.2.2.2.2.2.2.2.2.1 x.1.2.2.2.2.2.2.2.2.2.1 x.1.2.2.2.2.2.2.2.2.2.2.1 x.2.1.1 x.2.1.2.1 x.2.1.2.2.1 x.2.1.2.2.2.1 x.2.1.2.2.2.2.1 x.2.1.2.2.2.2.2.1 x.2.1.2.2.2.2.2.2.1 x.2.1.2.2.2.2.2.2.2.1 x.2.1.2.2.2.2.2.2.2.2.1 x.2.1.2.2.2.2.2.2.2.2.2.1 x.2.1.2.2.2.2.2.2.2.2.2.2.1, F28_r⟩
theorem F28_q (k : Nat) : ∀ xs cr, F28_p k xs = some cr → Contract Try.prog 28 xs cr := cle_ok fun x => F28_con k _ _ _ _ _ _ _ _ _ _ _ _ _ _ _ _ _ _ _ _ _ _
theorem F28_f : FnOk Try.prog 28 := .of (by kernel_rfl)
/-! 8: loop.example/netstack/spec.SegmentsJoined -/
def F8_h : Nat → Hint
  | 0 => ⟨[(0, .plain), (3, .plain), (4, .plain)], [(10000, .plain)]⟩
  | 2 => ⟨[(0, .plain), (3, .own .own seg []), (5, .plain)], []⟩
  | _ => ⟨[], []⟩
def F8_t (k : Nat) : Tab := entT 27 (F27_p k) <| entT 28 (F28_p k) <| entT 29 (F29_p k) <| noTab
abbrev F8_E (k : Nat) : Env := env (F8_t k) F8_h .own [] k
abbrev F8_a (a0 : List (den seg)) : List Arg := [.one (.l (.s .ro seg a0))]
def F8_r (r : List (den seg)) : A × List (List Leaf) := (.one (.s .own seg r), [])
def F8_s2 (a0 : List (den seg)) (x5_2 : Int) (m3900_2 : List (den seg)) : St := ⟨(.one (.s .ro seg a0)) :: (.one .d) :: (.one .d) :: (.one (.a (.cell 3900) 0 0 none)) :: (.one .d) :: (.one (.v (.int .i64 x5_2))) :: dz 57 [], [(3900, ⟨.s .own seg m3900_2, 0, 0⟩)]⟩
def F8_l2_j1 {β : Type} (k : Nat) (a0 : List (den seg)) (NX : Int → List (den seg) → Option β) (RET : List (den seg) → Option β) (x5_2 : Int) (m3900_2 : List (den seg)) : Option β := cond (decide (0 ≤ x5_2)) (cond (decide (x5_2 < ((a0.length : Nat) : Int))) ((F29 k ((atI a0 x5_2).1) (((atI a0 x5_2).2).1) ((((atI a0 x5_2).2).2).1) (((((atI a0 x5_2).2).2).2).1) ((((((atI a0 x5_2).2).2).2).2).1) (((((((atI a0 x5_2).2).2).2).2).2).1) ((((((((atI a0 x5_2).2).2).2).2).2).2).1) (((((((((atI a0 x5_2).2).2).2).2).2).2).2).1) ((((((((((atI a0 x5_2).2).2).2).2).2).2).2).2).1) (((((((((((atI a0 x5_2).2).2).2).2).2).2).2).2).2).1) (((((((((((atI a0 x5_2).2).2).2).2).2).2).2).2).2).2)).bind fun b4 => cond (decide ((m3900_2.length + [b4].length) * 96 ≤ 140737488355328)) (NX (IntKind.i64.wrap (x5_2 + 1)) (m3900_2 ++ [b4])) none) none) none
def F8_l2_T {β : Type} (k : Nat) (a0 : List (den seg)) (NX : Int → List (den seg) → Option β) (RET : List (den seg) → Option β) (x5_2 : Int) (m3900_2 : List (den seg)) : Option β := cond (decide (x5_2 < ((a0.length : Nat) : Int))) (cond (decide ((IntKind.i64.wrap (((m3900_2.length : Nat) : Int) - 1)) ≥ 0)) (cond (decide (0 ≤ (IntKind.i64.wrap (((m3900_2.length : Nat) : Int) - 1)))) (cond (decide ((IntKind.i64.wrap (((m3900_2.length : Nat) : Int) - 1)) < ((m3900_2.length : Nat) : Int))) (cond (decide (0 ≤ x5_2)) (cond (decide (x5_2 < ((a0.length : Nat) : Int))) ((F28 k ((atI m3900_2 (IntKind.i64.wrap (((m3900_2.length : Nat) : Int) - 1))).1) (((atI m3900_2 (IntKind.i64.wrap (((m3900_2.length : Nat) : Int) - 1))).2).1) ((((atI m3900_2 (IntKind.i64.wrap (((m3900_2.length : Nat) : Int) - 1))).2).2).1) (((((atI m3900_2 (IntKind.i64.wrap (((m3900_2.length : Nat) : Int) - 1))).2).2).2).1) ((((((atI m3900_2 (IntKind.i64.wrap (((m3900_2.length : Nat) : Int) - 1))).2).2).2).2).1) (((((((atI m3900_2 (IntKind.i64.wrap (((m3900_2.length : Nat) : Int) - 1))).2).2).2).2).2).1) ((((((((atI m3900_2 (IntKind.i64.wrap (((m3900_2.length : Nat) : Int) - 1))).2).2).2).2).2).2).1) (((((((((atI m3900_2 (IntKind.i64.wrap (((m3900_2.length : Nat) : Int) - 1))).2).2).2).2).2).2).2).1) ((((((((((atI m3900_2 (IntKind.i64.wrap (((m3900_2.length : Nat) : Int) - 1))).2).2).2).2).2).2).2).2).1) (((((((((((atI m3900_2 (IntKind.i64.wrap (((m3900_2.length : Nat) : Int) - 1))).2).2).2).2).2).2).2).2).2).1) (((((((((((atI m3900_2 (IntKind.i64.wrap (((m3900_2.length : Nat) : Int) - 1))).2).2).2).2).2).2).2).2).2).2) ((atI a0 x5_2).1) (((atI a0 x5_2).2).1) ((((atI a0 x5_2).2).2).1) (((((atI a0 x5_2).2).2).2).1) ((((((atI a0 x5_2).2).2).2).2).1) (((((((atI a0 x5_2).2).2).2).2).2).1) ((((((((atI a0 x5_2).2).2).2).2).2).2).1) (((((((((atI a0 x5_2).2).2).2).2).2).2).2).1) ((((((((((atI a0 x5_2).2).2).2).2).2).2).2).2).1) (((((((((((atI a0 x5_2).2).2).2).2).2).2).2).2).2).1) (((((((((((atI a0 x5_2).2).2).2).2).2).2).2).2).2).2)).bind fun b2 => cond b2.2.2.2.2.2.2.2.2.2.2.2 (cond (decide (0 ≤ (IntKind.i64.wrap (((m3900_2.length : Nat) : Int) - 1)))) (cond (decide ((IntKind.i64.wrap (((m3900_2.length : Nat) : Int) - 1)) < ((m3900_2.length : Nat) : Int))) ((sto (m3900_2.set ((IntKind.i64.wrap (((m3900_2.length : Nat) : Int) - 1)).toNat) (b2.1, b2.2.1, b2.2.2.1, b2.2.2.2.1, b2.2.2.2.2.1, b2.2.2.2.2.2.1, b2.2.2.2.2.2.2.1, b2.2.2.2.2.2.2.2.1, b2.2.2.2.2.2.2.2.2.1, b2.2.2.2.2.2.2.2.2.2.1, b2.2.2.2.2.2.2.2.2.2.2.1))).bind fun b3 => NX (IntKind.i64.wrap (x5_2 + 1)) b3) none) none) (F8_l2_j1 k a0 NX RET x5_2 m3900_2)) none) none) none) none) (F8_l2_j1 k a0 NX RET x5_2 m3900_2)) (RET m3900_2)
def F8_l2 (k : Nat) (a0 : List (den seg)) : Nat → Int → List (den seg) → Option (List (den seg))
  | 0, _, _ => none
  | n + 1, x5_2, m3900_2 => F8_l2_T k a0 (fun x5_2 m3900_2 => F8_l2 k a0 n x5_2 m3900_2) some x5_2 m3900_2
theorem F8_l2_rd {β : Type} (k n : Nat) (a0 : List (den seg)) (x5_2 : Int) (m3900_2 : List (den seg)) (K : A × List (List Leaf) → Option β) :
    loopG (F8_E k) Try.f8 [1, 1, 1, 0, 1, 0] 2 (kontAt (F8_E k) [1, 1, 1, 0, 1, 0] (bodyOf Try.f8) 0 (endC (F8_E k) Try.f8 (F8_a a0) K)) (n + 1) (F8_s2 a0 x5_2 m3900_2) =
    F8_l2_T k a0 (fun x5_2 m3900_2 => loopG (F8_E k) Try.f8 [1, 1, 1, 0, 1, 0] 2 (kontAt (F8_E k) [1, 1, 1, 0, 1, 0] (bodyOf Try.f8) 0 (endC (F8_E k) Try.f8 (F8_a a0) K)) n (F8_s2 a0 x5_2 m3900_2)) (fun r => K (F8_r r)) x5_2 m3900_2 := by kernel_rfl
theorem F8_l2_lp {β : Type} (k : Nat) (a0 : List (den seg)) (K : A × List (List Leaf) → Option β) (n : Nat) : ∀ (x5_2 : Int) (m3900_2 : List (den seg)), loopG (F8_E k) Try.f8 [1, 1, 1, 0, 1, 0] 2 (kontAt (F8_E k) [1, 1, 1, 0, 1, 0] (bodyOf Try.f8) 0 (endC (F8_E k) Try.f8 (F8_a a0) K)) n (F8_s2 a0 x5_2 m3900_2) =
    (F8_l2 k a0 n x5_2 m3900_2).bind fun r => K (F8_r r) := by
  induction n with
  | zero => intros; rfl
  | succ n ih =>
    intros
    rw [F8_l2_rd, F8_l2]
    simp only [F8_l2_T, F8_l2_j1, bind_cond, Option.bind_assoc, Option.bind_some, Option.bind_none, Option.bind_fun_some, ih]
def F8_s0 (a0 : List (den seg)) (x4_0 : Int) : St := ⟨(.one (.s .ro seg a0)) :: (.one .d) :: (.one .d) :: (.one (.a (.cell 10000) 0 0 none)) :: (.one (.v (.int .i64 x4_0))) :: dz 58 [], [(10000, ⟨.s .own seg [], 0, 0⟩)]⟩
def F8_l0_T {β : Type} (k : Nat) (a0 : List (den seg)) (NX : Int → Option β) (LP2 : Int → List (den seg) → Option β) (RET : List (den seg) → Option β) (x4_0 : Int) : Option β := cond (decide (x4_0 < ((a0.length : Nat) : Int))) (cond (decide (0 ≤ x4_0)) (cond (decide (x4_0 < ((a0.length : Nat) : Int))) ((F27 k ((atI a0 x4_0).1) (((atI a0 x4_0).2).1) ((((atI a0 x4_0).2).2).1) (((((atI a0 x4_0).2).2).2).1) ((((((atI a0 x4_0).2).2).2).2).1) (((((((atI a0 x4_0).2).2).2).2).2).1) ((((((((atI a0 x4_0).2).2).2).2).2).2).1) (((((((((atI a0 x4_0).2).2).2).2).2).2).2).1) ((((((((((atI a0 x4_0).2).2).2).2).2).2).2).2).1) (((((((((((atI a0 x4_0).2).2).2).2).2).2).2).2).2).1) (((((((((((atI a0 x4_0).2).2).2).2).2).2).2).2).2).2)).bind fun b1 => cond (!b1) (RET []) (NX (IntKind.i64.wrap (x4_0 + 1)))) none) none) (LP2 0 [])
def F8_l0 (k : Nat) (a0 : List (den seg)) : Nat → Int → Option (List (den seg))
  | 0, _ => none
  | n + 1, x4_0 => F8_l0_T k a0 (fun x4_0 => F8_l0 k a0 n x4_0) (fun x5_2 m3900_2 => F8_l2 k a0 k x5_2 m3900_2) some x4_0
theorem F8_l0_rd {β : Type} (k n : Nat) (a0 : List (den seg)) (x4_0 : Int) (K : A × List (List Leaf) → Option β) :
    loopG (F8_E k) Try.f8 [1, 1, 0, 1, 0] 0 (kontAt (F8_E k) [1, 1, 0, 1, 0] (bodyOf Try.f8) 0 (endC (F8_E k) Try.f8 (F8_a a0) K)) (n + 1) (F8_s0 a0 x4_0) =
    F8_l0_T k a0 (fun x4_0 => loopG (F8_E k) Try.f8 [1, 1, 0, 1, 0] 0 (kontAt (F8_E k) [1, 1, 0, 1, 0] (bodyOf Try.f8) 0 (endC (F8_E k) Try.f8 (F8_a a0) K)) n (F8_s0 a0 x4_0)) (fun x5_2 m3900_2 => loopG (F8_E k) Try.f8 [1, 1, 1, 0, 1, 0] 2 (kontAt (F8_E k) [1, 1, 1, 0, 1, 0] (bodyOf Try.f8) 0 (endC (F8_E k) Try.f8 (F8_a a0) K)) k (F8_s2 a0 x5_2 m3900_2)) (fun r => K (F8_r r)) x4_0 := by kernel_rfl
theorem F8_l0_lp {β : Type} (k : Nat) (a0 : List (den seg)) (K : A × List (List Leaf) → Option β) (n : Nat) : ∀ (x4_0 : Int), loopG (F8_E k) Try.f8 [1, 1, 0, 1, 0] 0 (kontAt (F8_E k) [1, 1, 0, 1, 0] (bodyOf Try.f8) 0 (endC (F8_E k) Try.f8 (F8_a a0) K)) n (F8_s0 a0 x4_0) =
    (F8_l0 k a0 n x4_0).bind fun r => K (F8_r r) := by
  induction n with
  | zero => intros; rfl
  | succ n ih =>
    intros
    rw [F8_l0_rd, F8_l0]
    simp only [F8_l0_T, bind_cond, Option.bind_assoc, Option.bind_some, Option.bind_none, Option.bind_fun_some, F8_l2_lp, ih]
def F8_T {β : Type} (k : Nat) (a0 : List (den seg)) (LP0 : Int → Option β) : Option β := LP0 0
def F8 (k : Nat) (a0 : List (den seg)) : Option (List (den seg)) := F8_T k a0 (fun x4_0 => F8_l0 k a0 k x4_0)
theorem F8_st {β : Type} (k : Nat) (a0 : List (den seg)) (K : A × List (List Leaf) → Option β) : evalF (F8_E k) Try.f8 (F8_a a0) K =
    F8_T k a0 (fun x4_0 => loopG (F8_E k) Try.f8 [1, 1, 0, 1, 0] 0 (kontAt (F8_E k) [1, 1, 0, 1, 0] (bodyOf Try.f8) 0 (endC (F8_E k) Try.f8 (F8_a a0) K)) k (F8_s0 a0 x4_0)) := by kernel_rfl
theorem F8_ev {β : Type} (k : Nat) (a0 : List (den seg)) (K : A × List (List Leaf) → Option β) : evalF (F8_E k) Try.f8 (F8_a a0) K = (F8 k a0).bind fun r => K (F8_r r) := by
  rw [F8_st, F8]
  simp only [F8_T, bind_cond, Option.bind_assoc, Option.bind_some, Option.bind_none, Option.bind_fun_some, F8_l0_lp]
theorem F8_tOk (k : Nat) : TabFn Try.prog (F8_t k) := .ent (F27_q k) F27_f (.ent (F28_q k) F28_f (.ent (F29_q k) F29_f (.none)))
theorem F8_con (k : Nat) (a0 : List (den seg)) : Contract Try.prog 8 (F8_a a0) ⟨F8 k a0, F8_r⟩ := con_of (envOk (F8_tOk k) _ _ _ _) mixed Try.func8 rfl rfl (F8_ev k a0 some)
def F8_sh : List AK := [.one (.l (.sl .ro seg))]
def F8_p (k : Nat) : List Arg → Option CR := cle F8_sh fun x => ⟨F8 k x.1, F8_r⟩
theorem F8_q (k : Nat) : ∀ xs cr, F8_p k xs = some cr → Contract Try.prog 8 xs cr := cle_ok fun x => F8_con k _
theorem F8_f : FnOk Try.prog 8 := .of (by kernel_rfl)
/-! 33: loop.example/netstack/impl.in -/
abbrev F33_E (k : Nat) : Env := env noTab noHint .own [] k
abbrev F33_a (a0 a1 a2 : Int) : List Arg := [.one (.l (.v (.int .i64 a0))), .one (.l (.v (.int .i64 a1))), .one (.l (.v (.int .i64 a2)))]
def F33_r (r : Bool) : A × List (List Leaf) := (.one (.v (.bool r)), [])
def F33 (k : Nat) (a0 a1 a2 : Int) : Option (Bool) := cond (decide (a0 ≥ a1)) (some (decide (a0 ≤ a2))) (some false)
theorem F33_st {β : Type} (k : Nat) (a0 a1 a2 : Int) (K : A × List (List Leaf) → Option β) : evalF (F33_E k) Try.f33 (F33_a a0 a1 a2) K =
    cond (decide (a0 ≥ a1)) (K (.one (.v (.bool (decide (a0 ≤ a2)))), [])) (K (.one (.v (.bool false)), [])) := by kernel_rfl
theorem F33_ev {β : Type} (k : Nat) (a0 a1 a2 : Int) (K : A × List (List Leaf) → Option β) : evalF (F33_E k) Try.f33 (F33_a a0 a1 a2) K = (F33 k a0 a1 a2).bind fun r => K (F33_r r) := by
  rw [F33_st, F33]
  simp only [F33_r, bind_cond, Option.bind_assoc, Option.bind_some, Option.bind_none, Option.bind_fun_some]
theorem F33_con (k : Nat) (a0 a1 a2 : Int) : Contract Try.prog 33 (F33_a a0 a1 a2) ⟨F33 k a0 a1 a2, F33_r⟩ := con_of (envOk .none _ _ _ _) mixed Try.func33 rfl rfl (F33_ev k a0 a1 a2 some)
def F33_sh : List AK := [.one (.l (.int .i64)), .one (.l (.int .i64)), .one (.l (.int .i64))]
def F33_p (k : Nat) : List Arg → Option CR := cle F33_sh fun x => ⟨F33 k x.1 x.2.1 x.2.2.1, F33_r⟩
theorem F33_q (k : Nat) : ∀ xs cr, F33_p k xs = some cr → Contract Try.prog 33 xs cr := cle_ok fun x => F33_con k _ _ _
theorem F33_f : FnOk Try.prog 33 := .of (by kernel_rfl)
/-! 31: loop.example/netstack/impl.portOk -/
def F31_t (k : Nat) : Tab := entT 33 (F33_p k) <| noTab
abbrev F31_E (k : Nat) : Env := env (F31_t k) noHint .own [] k
abbrev F31_a (a0 : Int) : List Arg := [.one (.l (.v (.int .i64 a0)))]
def F31_r (r : Bool) : A × List (List Leaf) := (.one (.v (.bool r)), [])
def F31 (k : Nat) (a0 : Int) : Option (Bool) := (F33 k a0 1 255).bind fun b1 => some b1
theorem F31_st {β : Type} (k : Nat) (a0 : Int) (K : A × List (List Leaf) → Option β) : evalF (F31_E k) Try.f31 (F31_a a0) K =
    (F33 k a0 1 255).bind fun b1 => K (.one (.v (.bool b1)), []) := by kernel_rfl
theorem F31_ev {β : Type} (k : Nat) (a0 : Int) (K : A × List (List Leaf) → Option β) : evalF (F31_E k) Try.f31 (F31_a a0) K = (F31 k a0).bind fun r => K (F31_r r) := by
  rw [F31_st, F31]
  simp only [F31_r, bind_cond, Option.bind_assoc, Option.bind_some, Option.bind_none, Option.bind_fun_some]
theorem F31_tOk (k : Nat) : TabFn Try.prog (F31_t k) := .ent (F33_q k) F33_f (.none)
theorem F31_con (k : Nat) (a0 : Int) : Contract Try.prog 31 (F31_a a0) ⟨F31 k a0, F31_r⟩ := con_of (envOk (F31_tOk k) _ _ _ _) mixed Try.func31 rfl rfl (F31_ev k a0 some)
def F31_sh : List AK := [.one (.l (.int .i64))]
def F31_p (k : Nat) : List Arg → Option CR := cle F31_sh fun x => ⟨F31 k x.1, F31_r⟩
theorem F31_q (k : Nat) : ∀ xs cr, F31_p k xs = some cr → Contract Try.prog 31 xs cr := cle_ok fun x => F31_con k _
theorem F31_f : FnOk Try.prog 31 := .of (by kernel_rfl)
/-! 32: loop.example/netstack/impl.word -/
def F32_t (k : Nat) : Tab := entT 33 (F33_p k) <| noTab
abbrev F32_E (k : Nat) : Env := env (F32_t k) noHint .own [] k
abbrev F32_a (a0 : Int) : List Arg := [.one (.l (.v (.int .i64 a0)))]
def F32_r (r : Bool) : A × List (List Leaf) := (.one (.v (.bool r)), [])
def F32 (k : Nat) (a0 : Int) : Option (Bool) := (F33 k a0 0 65535).bind fun b1 => some b1
theorem F32_st {β : Type} (k : Nat) (a0 : Int) (K : A × List (List Leaf) → Option β) : evalF (F32_E k) Try.f32 (F32_a a0) K =
    (F33 k a0 0 65535).bind fun b1 => K (.one (.v (.bool b1)), []) := by kernel_rfl
theorem F32_ev {β : Type} (k : Nat) (a0 : Int) (K : A × List (List Leaf) → Option β) : evalF (F32_E k) Try.f32 (F32_a a0) K = (F32 k a0).bind fun r => K (F32_r r) := by
  rw [F32_st, F32]
  simp only [F32_r, bind_cond, Option.bind_assoc, Option.bind_some, Option.bind_none, Option.bind_fun_some]
theorem F32_tOk (k : Nat) : TabFn Try.prog (F32_t k) := .ent (F33_q k) F33_f (.none)
theorem F32_con (k : Nat) (a0 : Int) : Contract Try.prog 32 (F32_a a0) ⟨F32 k a0, F32_r⟩ := con_of (envOk (F32_tOk k) _ _ _ _) mixed Try.func32 rfl rfl (F32_ev k a0 some)
def F32_sh : List AK := [.one (.l (.int .i64))]
def F32_p (k : Nat) : List Arg → Option CR := cle F32_sh fun x => ⟨F32 k x.1, F32_r⟩
theorem F32_q (k : Nat) : ∀ xs cr, F32_p k xs = some cr → Contract Try.prog 32 xs cr := cle_ok fun x => F32_con k _
theorem F32_f : FnOk Try.prog 32 := .of (by kernel_rfl)
/-! 35: loop.example/netstack/impl.SegmentOk$1 -/
def F35_t (k : Nat) : Tab := entT 32 (F32_p k) <| noTab
abbrev F35_E (k : Nat) : Env := env (F35_t k) noHint .own [] k
abbrev F35_a (a0_0 a0_1 : Int) : List Arg := [.agg [.l (.v (.int .i64 a0_0)), .l (.v (.int .i64 a0_1))]]
def F35_r (r : Bool) : A × List (List Leaf) := (.one (.v (.bool r)), [])
def F35 (k : Nat) (a0_0 a0_1 : Int) : Option (Bool) := (F32 k a0_0).bind fun b1 => cond (!b1) (some true) ((F32 k a0_1).bind fun b2 => some (!b2))
theorem F35_st {β : Type} (k : Nat) (a0_0 a0_1 : Int) (K : A × List (List Leaf) → Option β) : evalF (F35_E k) Try.f35 (F35_a a0_0 a0_1) K =
    (F32 k a0_0).bind fun b1 => cond (!b1) (K (.one (.v (.bool true)), [])) ((F32 k a0_1).bind fun b2 => K (.one (.v (.bool (!b2))), [])) := by kernel_rfl
theorem F35_ev {β : Type} (k : Nat) (a0_0 a0_1 : Int) (K : A × List (List Leaf) → Option β) : evalF (F35_E k) Try.f35 (F35_a a0_0 a0_1) K = (F35 k a0_0 a0_1).bind fun r => K (F35_r r) := by
  rw [F35_st, F35]
  simp only [F35_r, bind_cond, Option.bind_assoc, Option.bind_some, Option.bind_none, Option.bind_fun_some]
theorem F35_tOk (k : Nat) : TabFn Try.prog (F35_t k) := .ent (F32_q k) F32_f (.none)
theorem F35_con (k : Nat) (a0_0 a0_1 : Int) : Contract Try.prog 35 (F35_a a0_0 a0_1) ⟨F35 k a0_0 a0_1, F35_r⟩ := con_of (envOk (F35_tOk k) _ _ _ _) mixed Try.func35 rfl rfl (F35_ev k a0_0 a0_1 some)
def F35_sh : List AK := [.agg [.l (.int .i64), .l (.int .i64)]]
def F35_p (k : Nat) : List Arg → Option CR := cle F35_sh fun x => ⟨F35 k x.1.1 x.1.2.1, F35_r⟩
theorem F35_q (k : Nat) : ∀ xs cr, F35_p k xs = some cr → Contract Try.prog 35 xs cr := cle_ok fun x => F35_con k _ _
theorem F35_f : FnOk Try.prog 35 := .of (by kernel_rfl)
/-! 57: slices.IndexFunc[[]loop.example/netstack/impl.Range,loop.example/netstack/impl.Range] -/
def F57_h : Nat → Hint
  | 0 => ⟨[(0, .plain), (1, .plain), (7, .plain), (8, .plain)], []⟩
  | _ => ⟨[], []⟩
def F57_t (k : Nat) : Tab := entT 35 (F35_p k) <| noTab
abbrev F57_E (k : Nat) : Env := env (F57_t k) F57_h .own [] k
abbrev F57_a (a0 : List (den rng)) : List Arg := [.one (.l (.s .ro rng a0)), .one (.fn 35 [])]
def F57_r (r : Int) : A × List (List Leaf) := (.one (.v (.int .i64 r)), [])
def F57_s0 (a0 : List (den rng)) (x8_0 : Int) : St := ⟨(.one (.s .ro rng a0)) :: (.one (.fn 35 [])) :: dz 5 ((.one (.v (.int .i64 ((a0.length : Nat) : Int)))) :: (.one (.v (.int .i64 x8_0))) :: dz 10 []), []⟩
def F57_l0_T {β : Type} (k : Nat) (a0 : List (den rng)) (NX : Int → Option β) (RET : Int → Option β) (x8_0 : Int) : Option β := cond (decide (x8_0 < ((a0.length : Nat) : Int))) (cond (decide (0 ≤ x8_0)) (cond (decide (x8_0 < ((a0.length : Nat) : Int))) ((F35 k ((atI a0 x8_0).1) ((atI a0 x8_0).2)).bind fun b1 => cond b1 (RET x8_0) (NX (IntKind.i64.wrap (x8_0 + 1)))) none) none) (RET (-1))
def F57_l0 (k : Nat) (a0 : List (den rng)) : Nat → Int → Option (Int)
  | 0, _ => none
  | n + 1, x8_0 => F57_l0_T k a0 (fun x8_0 => F57_l0 k a0 n x8_0) some x8_0
theorem F57_l0_rd {β : Type} (k n : Nat) (a0 : List (den rng)) (x8_0 : Int) (K : A × List (List Leaf) → Option β) :
    loopG (F57_E k) Try.f57 [1, 0, 1, 0] 0 (kontAt (F57_E k) [1, 0, 1, 0] (bodyOf Try.f57) 0 (endC (F57_E k) Try.f57 (F57_a a0) K)) (n + 1) (F57_s0 a0 x8_0) =
    F57_l0_T k a0 (fun x8_0 => loopG (F57_E k) Try.f57 [1, 0, 1, 0] 0 (kontAt (F57_E k) [1, 0, 1, 0] (bodyOf Try.f57) 0 (endC (F57_E k) Try.f57 (F57_a a0) K)) n (F57_s0 a0 x8_0)) (fun r => K (F57_r r)) x8_0 := by kernel_rfl
theorem F57_l0_lp {β : Type} (k : Nat) (a0 : List (den rng)) (K : A × List (List Leaf) → Option β) (n : Nat) : ∀ (x8_0 : Int), loopG (F57_E k) Try.f57 [1, 0, 1, 0] 0 (kontAt (F57_E k) [1, 0, 1, 0] (bodyOf Try.f57) 0 (endC (F57_E k) Try.f57 (F57_a a0) K)) n (F57_s0 a0 x8_0) =
    (F57_l0 k a0 n x8_0).bind fun r => K (F57_r r) := by
  induction n with
  | zero => intros; rfl
  | succ n ih =>
    intros
    rw [F57_l0_rd, F57_l0]
    simp only [F57_l0_T, bind_cond, Option.bind_assoc, Option.bind_some, Option.bind_none, Option.bind_fun_some, ih]
def F57_T {β : Type} (k : Nat) (a0 : List (den rng)) (LP0 : Int → Option β) : Option β := LP0 0
def F57 (k : Nat) (a0 : List (den rng)) : Option (Int) := F57_T k a0 (fun x8_0 => F57_l0 k a0 k x8_0)
theorem F57_st {β : Type} (k : Nat) (a0 : List (den rng)) (K : A × List (List Leaf) → Option β) : evalF (F57_E k) Try.f57 (F57_a a0) K =
    F57_T k a0 (fun x8_0 => loopG (F57_E k) Try.f57 [1, 0, 1, 0] 0 (kontAt (F57_E k) [1, 0, 1, 0] (bodyOf Try.f57) 0 (endC (F57_E k) Try.f57 (F57_a a0) K)) k (F57_s0 a0 x8_0)) := by kernel_rfl
theorem F57_ev {β : Type} (k : Nat) (a0 : List (den rng)) (K : A × List (List Leaf) → Option β) : evalF (F57_E k) Try.f57 (F57_a a0) K = (F57 k a0).bind fun r => K (F57_r r) := by
  rw [F57_st, F57]
  simp only [F57_T, bind_cond, Option.bind_assoc, Option.bind_some, Option.bind_none, Option.bind_fun_some, F57_l0_lp]
theorem F57_tOk (k : Nat) : TabFn Try.prog (F57_t k) := .ent (F35_q k) F35_f (.none)
theorem F57_con (k : Nat) (a0 : List (den rng)) : Contract Try.prog 57 (F57_a a0) ⟨F57 k a0, F57_r⟩ := con_of (envOk (F57_tOk k) _ _ _ _) mixed Try.func57 rfl rfl (F57_ev k a0 some)
def F57_sh : List AK := [.one (.l (.sl .ro rng)), .one (.fn 35)]
def F57_p (k : Nat) : List Arg → Option CR := cle F57_sh fun x => ⟨F57 k x.1, F57_r⟩
theorem F57_q (k : Nat) : ∀ xs cr, F57_p k xs = some cr → Contract Try.prog 57 xs cr := cle_ok fun x => F57_con k _
theorem F57_f : FnOk Try.prog 57 := .of (by kernel_rfl)
/-! 34: slices.ContainsFunc[[]loop.example/netstack/impl.Range,loop.example/netstack/impl.Range] -/
def F34_t (k : Nat) : Tab := entT 57 (F57_p k) <| noTab
abbrev F34_E (k : Nat) : Env := env (F34_t k) noHint .own [] k
abbrev F34_a (a0 : List (den rng)) : List Arg := [.one (.l (.s .ro rng a0)), .one (.fn 35 [])]
def F34_r (r : Bool) : A × List (List Leaf) := (.one (.v (.bool r)), [])
def F34 (k : Nat) (a0 : List (den rng)) : Option (Bool) := (F57 k a0).bind fun b1 => some (decide (b1 ≥ 0))
theorem F34_st {β : Type} (k : Nat) (a0 : List (den rng)) (K : A × List (List Leaf) → Option β) : evalF (F34_E k) Try.f34 (F34_a a0) K =
    (F57 k a0).bind fun b1 => K (.one (.v (.bool (decide (b1 ≥ 0)))), []) := by kernel_rfl
theorem F34_ev {β : Type} (k : Nat) (a0 : List (den rng)) (K : A × List (List Leaf) → Option β) : evalF (F34_E k) Try.f34 (F34_a a0) K = (F34 k a0).bind fun r => K (F34_r r) := by
  rw [F34_st, F34]
  simp only [F34_r, bind_cond, Option.bind_assoc, Option.bind_some, Option.bind_none, Option.bind_fun_some]
theorem F34_tOk (k : Nat) : TabFn Try.prog (F34_t k) := .ent (F57_q k) F57_f (.none)
theorem F34_con (k : Nat) (a0 : List (den rng)) : Contract Try.prog 34 (F34_a a0) ⟨F34 k a0, F34_r⟩ := con_of (envOk (F34_tOk k) _ _ _ _) mixed Try.func34 rfl rfl (F34_ev k a0 some)
def F34_sh : List AK := [.one (.l (.sl .ro rng)), .one (.fn 35)]
def F34_p (k : Nat) : List Arg → Option CR := cle F34_sh fun x => ⟨F34 k x.1, F34_r⟩
theorem F34_q (k : Nat) : ∀ xs cr, F34_p k xs = some cr → Contract Try.prog 34 xs cr := cle_ok fun x => F34_con k _
theorem F34_f : FnOk Try.prog 34 := .of (by kernel_rfl)
/-! 10: loop.example/netstack/impl.SegmentOk -/
def F10_t (k : Nat) : Tab := entT 31 (F31_p k) <| entT 32 (F32_p k) <| entT 33 (F33_p k) <| entT 34 (F34_p k) <| noTab
abbrev F10_E (k : Nat) : Env := env (F10_t k) noHint .own [] k
abbrev F10_a (a0_0 a0_1 a0_2 a0_3 a0_4 : Int) (a0_5 a0_6 a0_7 a0_8 : Bool) (a0_9 : List (den rng)) (a0_10 : List (den (.int .u8))) : List Arg := [.agg [.l (.v (.int .i64 a0_0)), .l (.v (.int .i64 a0_1)), .l (.v (.int .i64 a0_2)), .l (.v (.int .i64 a0_3)), .l (.v (.int .i64 a0_4)), .l (.v (.bool a0_5)), .l (.v (.bool a0_6)), .l (.v (.bool a0_7)), .l (.v (.bool a0_8)), .l (.s .ro rng a0_9), .l (.s .ro (.int .u8) a0_10)]]
def F10_r (r : Bool) : A × List (List Leaf) := (.one (.v (.bool r)), [])
def F10_T {β : Type} (k : Nat) (a0_0 a0_1 a0_2 a0_3 a0_4 : Int) (a0_5 a0_6 a0_7 a0_8 : Bool) (a0_9 : List (den rng)) (a0_10 : List (den (.int .u8))) (RET : Bool → Option β) : Option β := (F31 k a0_0).bind fun b1 => cond (!b1) (RET false) ((F31 k a0_1).bind fun b2 => cond (!b2) (RET false) ((F32 k a0_2).bind fun b3 => cond (!b3) (RET false) ((F32 k a0_3).bind fun b4 => cond (!b4) (RET false) ((F33 k a0_4 0 255).bind fun b5 => cond (!b5) (RET false) (cond (decide (((a0_9.length : Nat) : Int) > 2)) (RET false) (cond (decide (((a0_10.length : Nat) : Int) > 12)) (RET false) ((F34 k a0_9).bind fun b6 => cond b6 (RET false) (cond (!a0_6) (cond (a0_3 != 0) (RET false) (cond (a0_4 != 0) (RET false) (cond (decide (((a0_9.length : Nat) : Int) > 0)) (RET false) (cond (!a0_8) (RET true) (cond (!a0_5) (cond (!a0_7) (RET (((a0_10.length : Nat) : Int) == 0)) (RET false)) (RET false)))))) (cond (!a0_8) (RET true) (cond (!a0_5) (cond (!a0_7) (RET (((a0_10.length : Nat) : Int) == 0)) (RET false)) (RET false)))))))))))
def F10 (k : Nat) (a0_0 a0_1 a0_2 a0_3 a0_4 : Int) (a0_5 a0_6 a0_7 a0_8 : Bool) (a0_9 : List (den rng)) (a0_10 : List (den (.int .u8))) : Option (Bool) := F10_T k a0_0 a0_1 a0_2 a0_3 a0_4 a0_5 a0_6 a0_7 a0_8 a0_9 a0_10 some
theorem F10_st {β : Type} (k : Nat) (a0_0 a0_1 a0_2 a0_3 a0_4 : Int) (a0_5 a0_6 a0_7 a0_8 : Bool) (a0_9 : List (den rng)) (a0_10 : List (den (.int .u8))) (K : A × List (List Leaf) → Option β) : evalF (F10_E k) Try.f10 (F10_a a0_0 a0_1 a0_2 a0_3 a0_4 a0_5 a0_6 a0_7 a0_8 a0_9 a0_10) K =
    F10_T k a0_0 a0_1 a0_2 a0_3 a0_4 a0_5 a0_6 a0_7 a0_8 a0_9 a0_10 (fun r => K (F10_r r)) := by kernel_rfl
theorem F10_ev {β : Type} (k : Nat) (a0_0 a0_1 a0_2 a0_3 a0_4 : Int) (a0_5 a0_6 a0_7 a0_8 : Bool) (a0_9 : List (den rng)) (a0_10 : List (den (.int .u8))) (K : A × List (List Leaf) → Option β) : evalF (F10_E k) Try.f10 (F10_a a0_0 a0_1 a0_2 a0_3 a0_4 a0_5 a0_6 a0_7 a0_8 a0_9 a0_10) K = (F10 k a0_0 a0_1 a0_2 a0_3 a0_4 a0_5 a0_6 a0_7 a0_8 a0_9 a0_10).bind fun r => K (F10_r r) := by
  rw [F10_st, F10]
  simp only [F10_T, bind_cond, Option.bind_assoc, Option.bind_some, Option.bind_none, Option.bind_fun_some]
theorem F10_tOk (k : Nat) : TabFn Try.prog (F10_t k) := .ent (F31_q k) F31_f (.ent (F32_q k) F32_f (.ent (F33_q k) F33_f (.ent (F34_q k) F34_f (.none))))
theorem F10_con (k : Nat) (a0_0 a0_1 a0_2 a0_3 a0_4 : Int) (a0_5 a0_6 a0_7 a0_8 : Bool) (a0_9 : List (den rng)) (a0_10 : List (den (.int .u8))) : Contract Try.prog 10 (F10_a a0_0 a0_1 a0_2 a0_3 a0_4 a0_5 a0_6 a0_7 a0_8 a0_9 a0_10) ⟨F10 k a0_0 a0_1 a0_2 a0_3 a0_4 a0_5 a0_6 a0_7 a0_8 a0_9 a0_10, F10_r⟩ := con_of (envOk (F10_tOk k) _ _ _ _) mixed Try.func10 rfl rfl (F10_ev k a0_0 a0_1 a0_2 a0_3 a0_4 a0_5 a0_6 a0_7 a0_8 a0_9 a0_10 some)
def F10_sh : List AK := [.agg [.l (.int .i64), .l (.int .i64), .l (.int .i64), .l (.int .i64), .l (.int .i64), .l (.bool), .l (.bool), .l (.bool), .l (.bool), .l (.sl .ro rng), .l (.sl .ro (.int .u8))]]
def F10_p (k : Nat) : List Arg → Option CR := cle F10_sh fun x => ⟨F10 k x.1.1 x.1.2.1 x.1.2.2.1 x.1.2.2.2.1 x.1.2.2.2.2.1 x.1.2.2.2.2.2.1 x.1.2.2.2.2.2.2.1 x.1.2.2.2.2.2.2.2.1 x.1.2.2.2.2.2.2.2.2.1 x.1.2.2.2.2.2.2.2.2.2.1 x.1.2.2.2.2.2.2.2.2.2.2.1, F10_r⟩
theorem F10_q (k : Nat) : ∀ xs cr, F10_p k xs = some cr → Contract Try.prog 10 xs cr := cle_ok fun x => F10_con k _ _ _ _ _ _ _ _ _ _ _
theorem F10_f : FnOk Try.prog 10 := .of (by kernel_rfl)
/-! 36: slices.Equal[[]loop.example/netstack/impl.Range,loop.example/netstack/impl.Range] -/
def F36_h : Nat → Hint
  | 0 => ⟨[(0, .plain), (1, .plain), (12, .plain), (13, .plain)], []⟩
  | _ => ⟨[], []⟩
abbrev F36_E (k : Nat) : Env := env noTab F36_h .own [] k
abbrev F36_a (a0 a1 : List (den rng)) : List Arg := [.one (.l (.s .ro rng a0)), .one (.l (.s .ro rng a1))]
def F36_r (r : Bool) : A × List (List Leaf) := (.one (.v (.bool r)), [])
def F36_s0 (a0 a1 : List (den rng)) (x13_0 : Int) : St := ⟨(.one (.s .ro rng a0)) :: (.one (.s .ro rng a1)) :: dz 10 ((.one (.v (.int .i64 ((a0.length : Nat) : Int)))) :: (.one (.v (.int .i64 x13_0))) :: dz 12 []), []⟩
def F36_l0_T {β : Type} (k : Nat) (a0 a1 : List (den rng)) (NX : Int → Option β) (RET : Bool → Option β) (x13_0 : Int) : Option β := cond (decide (x13_0 < ((a0.length : Nat) : Int))) (cond (decide (0 ≤ x13_0)) (cond (decide (x13_0 < ((a0.length : Nat) : Int))) (cond (decide (0 ≤ x13_0)) (cond (decide (x13_0 < ((a1.length : Nat) : Int))) (cond (!(eqD rng (atI a0 x13_0) (atI a1 x13_0))) (RET false) (NX (IntKind.i64.wrap (x13_0 + 1)))) none) none) none) none) (RET true)
def F36_l0 (k : Nat) (a0 a1 : List (den rng)) : Nat → Int → Option (Bool)
  | 0, _ => none
  | n + 1, x13_0 => F36_l0_T k a0 a1 (fun x13_0 => F36_l0 k a0 a1 n x13_0) some x13_0
theorem F36_l0_rd {β : Type} (k n : Nat) (a0 a1 : List (den rng)) (x13_0 : Int) (K : A × List (List Leaf) → Option β) :
    loopG (F36_E k) Try.f36 [1, 1, 0, 1, 0] 0 (kontAt (F36_E k) [1, 1, 0, 1, 0] (bodyOf Try.f36) 0 (endC (F36_E k) Try.f36 (F36_a a0 a1) K)) (n + 1) (F36_s0 a0 a1 x13_0) =
    F36_l0_T k a0 a1 (fun x13_0 => loopG (F36_E k) Try.f36 [1, 1, 0, 1, 0] 0 (kontAt (F36_E k) [1, 1, 0, 1, 0] (bodyOf Try.f36) 0 (endC (F36_E k) Try.f36 (F36_a a0 a1) K)) n (F36_s0 a0 a1 x13_0)) (fun r => K (F36_r r)) x13_0 := by kernel_rfl
theorem F36_l0_lp {β : Type} (k : Nat) (a0 a1 : List (den rng)) (K : A × List (List Leaf) → Option β) (n : Nat) : ∀ (x13_0 : Int), loopG (F36_E k) Try.f36 [1, 1, 0, 1, 0] 0 (kontAt (F36_E k) [1, 1, 0, 1, 0] (bodyOf Try.f36) 0 (endC (F36_E k) Try.f36 (F36_a a0 a1) K)) n (F36_s0 a0 a1 x13_0) =
    (F36_l0 k a0 a1 n x13_0).bind fun r => K (F36_r r) := by
  induction n with
  | zero => intros; rfl
  | succ n ih =>
    intros
    rw [F36_l0_rd, F36_l0]
    simp only [F36_l0_T, bind_cond, Option.bind_assoc, Option.bind_some, Option.bind_none, Option.bind_fun_some, ih]
def F36_T {β : Type} (k : Nat) (a0 a1 : List (den rng)) (LP0 : Int → Option β) (RET : Bool → Option β) : Option β := cond (((a0.length : Nat) : Int) != ((a1.length : Nat) : Int)) (RET false) (LP0 0)
def F36 (k : Nat) (a0 a1 : List (den rng)) : Option (Bool) := F36_T k a0 a1 (fun x13_0 => F36_l0 k a0 a1 k x13_0) some
theorem F36_st {β : Type} (k : Nat) (a0 a1 : List (den rng)) (K : A × List (List Leaf) → Option β) : evalF (F36_E k) Try.f36 (F36_a a0 a1) K =
    F36_T k a0 a1 (fun x13_0 => loopG (F36_E k) Try.f36 [1, 1, 0, 1, 0] 0 (kontAt (F36_E k) [1, 1, 0, 1, 0] (bodyOf Try.f36) 0 (endC (F36_E k) Try.f36 (F36_a a0 a1) K)) k (F36_s0 a0 a1 x13_0)) (fun r => K (F36_r r)) := by kernel_rfl
theorem F36_ev {β : Type} (k : Nat) (a0 a1 : List (den rng)) (K : A × List (List Leaf) → Option β) : evalF (F36_E k) Try.f36 (F36_a a0 a1) K = (F36 k a0 a1).bind fun r => K (F36_r r) := by
  rw [F36_st, F36]
  simp only [F36_T, bind_cond, Option.bind_assoc, Option.bind_some, Option.bind_none, Option.bind_fun_some, F36_l0_lp]
theorem F36_con (k : Nat) (a0 a1 : List (den rng)) : Contract Try.prog 36 (F36_a a0 a1) ⟨F36 k a0 a1, F36_r⟩ := con_of (envOk .none _ _ _ _) mixed Try.func36 rfl rfl (F36_ev k a0 a1 some)
def F36_sh : List AK := [.one (.l (.sl .ro rng)), .one (.l (.sl .ro rng))]
def F36_p (k : Nat) : List Arg → Option CR := cle F36_sh fun x => ⟨F36 k x.1 x.2.1, F36_r⟩
theorem F36_q (k : Nat) : ∀ xs cr, F36_p k xs = some cr → Contract Try.prog 36 xs cr := cle_ok fun x => F36_con k _ _
theorem F36_f : FnOk Try.prog 36 := .of (by kernel_rfl)
/-! 30: loop.example/netstack/impl.bit -/
abbrev F30_E (k : Nat) : Env := env noTab noHint .own [] k
abbrev F30_a (a0 : Bool) (a1 : Int) : List Arg := [.one (.l (.v (.bool a0))), .one (.l (.v (.int .i64 a1)))]
def F30_r (r : Int) : A × List (List Leaf) := (.one (.v (.int .i64 r)), [])
def F30 (k : Nat) (a0 : Bool) (a1 : Int) : Option (Int) := cond a0 (some a1) (some 0)
theorem F30_st {β : Type} (k : Nat) (a0 : Bool) (a1 : Int) (K : A × List (List Leaf) → Option β) : evalF (F30_E k) Try.f30 (F30_a a0 a1) K =
    cond a0 (K (.one (.v (.int .i64 a1)), [])) (K (.one (.v (.int .i64 0)), [])) := by kernel_rfl
theorem F30_ev {β : Type} (k : Nat) (a0 : Bool) (a1 : Int) (K : A × List (List Leaf) → Option β) : evalF (F30_E k) Try.f30 (F30_a a0 a1) K = (F30 k a0 a1).bind fun r => K (F30_r r) := by
  rw [F30_st, F30]
  simp only [F30_r, bind_cond, Option.bind_assoc, Option.bind_some, Option.bind_none, Option.bind_fun_some]
theorem F30_con (k : Nat) (a0 : Bool) (a1 : Int) : Contract Try.prog 30 (F30_a a0 a1) ⟨F30 k a0 a1, F30_r⟩ := con_of (envOk .none _ _ _ _) mixed Try.func30 rfl rfl (F30_ev k a0 a1 some)
def F30_sh : List AK := [.one (.l (.bool)), .one (.l (.int .i64))]
def F30_p (k : Nat) : List Arg → Option CR := cle F30_sh fun x => ⟨F30 k x.1 x.2.1, F30_r⟩
theorem F30_q (k : Nat) : ∀ xs cr, F30_p k xs = some cr → Contract Try.prog 30 xs cr := cle_ok fun x => F30_con k _ _
theorem F30_f : FnOk Try.prog 30 := .of (by kernel_rfl)
/-! 9: loop.example/netstack/impl.SegmentLong -/
def F9_t (k : Nat) : Tab := entT 30 (F30_p k) <| noTab
abbrev F9_E (k : Nat) : Env := env (F9_t k) noHint .own [] k
abbrev F9_a (a0_0 a0_1 a0_2 a0_3 a0_4 : Int) (a0_5 a0_6 a0_7 a0_8 : Bool) (a0_9 : List (den rng)) (a0_10 : List (den (.int .u8))) : List Arg := [.agg [.l (.v (.int .i64 a0_0)), .l (.v (.int .i64 a0_1)), .l (.v (.int .i64 a0_2)), .l (.v (.int .i64 a0_3)), .l (.v (.int .i64 a0_4)), .l (.v (.bool a0_5)), .l (.v (.bool a0_6)), .l (.v (.bool a0_7)), .l (.v (.bool a0_8)), .l (.s .ro rng a0_9), .l (.s .ro (.int .u8) a0_10)]]
def F9_r (r : Int) : A × List (List Leaf) := (.one (.v (.int .i64 r)), [])
def F9_T {β : Type} (k : Nat) (a0_0 a0_1 a0_2 a0_3 a0_4 : Int) (a0_5 a0_6 a0_7 a0_8 : Bool) (a0_9 : List (den rng)) (a0_10 : List (den (.int .u8))) (RET : Int → Option β) : Option β := (F30 k a0_5 1).bind fun b1 => (F30 k a0_7 1).bind fun b2 => RET (IntKind.i64.wrap ((IntKind.i64.wrap (((a0_10.length : Nat) : Int) + b1)) + b2))
def F9 (k : Nat) (a0_0 a0_1 a0_2 a0_3 a0_4 : Int) (a0_5 a0_6 a0_7 a0_8 : Bool) (a0_9 : List (den rng)) (a0_10 : List (den (.int .u8))) : Option (Int) := F9_T k a0_0 a0_1 a0_2 a0_3 a0_4 a0_5 a0_6 a0_7 a0_8 a0_9 a0_10 some
theorem F9_st {β : Type} (k : Nat) (a0_0 a0_1 a0_2 a0_3 a0_4 : Int) (a0_5 a0_6 a0_7 a0_8 : Bool) (a0_9 : List (den rng)) (a0_10 : List (den (.int .u8))) (K : A × List (List Leaf) → Option β) : evalF (F9_E k) Try.f9 (F9_a a0_0 a0_1 a0_2 a0_3 a0_4 a0_5 a0_6 a0_7 a0_8 a0_9 a0_10) K =
    F9_T k a0_0 a0_1 a0_2 a0_3 a0_4 a0_5 a0_6 a0_7 a0_8 a0_9 a0_10 (fun r => K (F9_r r)) := by kernel_rfl
theorem F9_ev {β : Type} (k : Nat) (a0_0 a0_1 a0_2 a0_3 a0_4 : Int) (a0_5 a0_6 a0_7 a0_8 : Bool) (a0_9 : List (den rng)) (a0_10 : List (den (.int .u8))) (K : A × List (List Leaf) → Option β) : evalF (F9_E k) Try.f9 (F9_a a0_0 a0_1 a0_2 a0_3 a0_4 a0_5 a0_6 a0_7 a0_8 a0_9 a0_10) K = (F9 k a0_0 a0_1 a0_2 a0_3 a0_4 a0_5 a0_6 a0_7 a0_8 a0_9 a0_10).bind fun r => K (F9_r r) := by
  rw [F9_st, F9]
  simp only [F9_T, bind_cond, Option.bind_assoc, Option.bind_some, Option.bind_none, Option.bind_fun_some]
theorem F9_tOk (k : Nat) : TabFn Try.prog (F9_t k) := .ent (F30_q k) F30_f (.none)
theorem F9_con (k : Nat) (a0_0 a0_1 a0_2 a0_3 a0_4 : Int) (a0_5 a0_6 a0_7 a0_8 : Bool) (a0_9 : List (den rng)) (a0_10 : List (den (.int .u8))) : Contract Try.prog 9 (F9_a a0_0 a0_1 a0_2 a0_3 a0_4 a0_5 a0_6 a0_7 a0_8 a0_9 a0_10) ⟨F9 k a0_0 a0_1 a0_2 a0_3 a0_4 a0_5 a0_6 a0_7 a0_8 a0_9 a0_10, F9_r⟩ := con_of (envOk (F9_tOk k) _ _ _ _) mixed Try.func9 rfl rfl (F9_ev k a0_0 a0_1 a0_2 a0_3 a0_4 a0_5 a0_6 a0_7 a0_8 a0_9 a0_10 some)
def F9_sh : List AK := [.agg [.l (.int .i64), .l (.int .i64), .l (.int .i64), .l (.int .i64), .l (.int .i64), .l (.bool), .l (.bool), .l (.bool), .l (.bool), .l (.sl .ro rng), .l (.sl .ro (.int .u8))]]
def F9_p (k : Nat) : List Arg → Option CR := cle F9_sh fun x => ⟨F9 k x.1.1 x.1.2.1 x.1.2.2.1 x.1.2.2.2.1 x.1.2.2.2.2.1 x.1.2.2.2.2.2.1 x.1.2.2.2.2.2.2.1 x.1.2.2.2.2.2.2.2.1 x.1.2.2.2.2.2.2.2.2.1 x.1.2.2.2.2.2.2.2.2.2.1 x.1.2.2.2.2.2.2.2.2.2.2.1, F9_r⟩
theorem F9_q (k : Nat) : ∀ xs cr, F9_p k xs = some cr → Contract Try.prog 9 xs cr := cle_ok fun x => F9_con k _ _ _ _ _ _ _ _ _ _ _
theorem F9_f : FnOk Try.prog 9 := .of (by kernel_rfl)
/-! 37: loop.example/netstack/impl.SeqOf -/
abbrev F37_E (k : Nat) : Env := env noTab noHint .own [] k
abbrev F37_a (a0 : Int) : List Arg := [.one (.l (.v (.int .i64 a0)))]
def F37_r (r : Int) : A × List (List Leaf) := (.one (.v (.int .i64 r)), [])
def F37 (k : Nat) (a0 : Int) : Option (Int) := some ((IntKind.i64.wrap ((a0.tmod 65536) + 65536)).tmod 65536)
theorem F37_st {β : Type} (k : Nat) (a0 : Int) (K : A × List (List Leaf) → Option β) : evalF (F37_E k) Try.f37 (F37_a a0) K =
    K (.one (.v (.int .i64 ((IntKind.i64.wrap ((a0.tmod 65536) + 65536)).tmod 65536))), []) := by kernel_rfl
theorem F37_ev {β : Type} (k : Nat) (a0 : Int) (K : A × List (List Leaf) → Option β) : evalF (F37_E k) Try.f37 (F37_a a0) K = (F37 k a0).bind fun r => K (F37_r r) := by
  rw [F37_st, F37]
  simp only [F37_r, bind_cond, Option.bind_assoc, Option.bind_some, Option.bind_none, Option.bind_fun_some]
theorem F37_con (k : Nat) (a0 : Int) : Contract Try.prog 37 (F37_a a0) ⟨F37 k a0, F37_r⟩ := con_of (envOk .none _ _ _ _) mixed Try.func37 rfl rfl (F37_ev k a0 some)
def F37_sh : List AK := [.one (.l (.int .i64))]
def F37_p (k : Nat) : List Arg → Option CR := cle F37_sh fun x => ⟨F37 k x.1, F37_r⟩
theorem F37_q (k : Nat) : ∀ xs cr, F37_p k xs = some cr → Contract Try.prog 37 xs cr := cle_ok fun x => F37_con k _
theorem F37_f : FnOk Try.prog 37 := .of (by kernel_rfl)
/-! 66: slices.Clip[[]loop.example/netstack/impl.Range,loop.example/netstack/impl.Range] -/
abbrev F66_E (k : Nat) : Env := env noTab noHint .own [] k
abbrev F66_a (a0 : List (den rng)) : List Arg := [.one (.l (.s .own rng a0))]
def F66_r (r : List (den rng)) : A × List (List Leaf) := (.one (.s .own rng r), [])
def F66_T {β : Type} (k : Nat) (a0 : List (den rng)) (RET : List (den rng) → Option β) : Option β := cond (decide (0 ≤ ((a0.length : Nat) : Int)) && decide (((a0.length : Nat) : Int) ≤ ((a0.length : Nat) : Int))) (cond (decide (((a0.length : Nat) : Int) = ((a0.length : Nat) : Int))) (RET ((a0.take (((a0.length : Nat) : Int).toNat)).drop 0)) none) none
def F66 (k : Nat) (a0 : List (den rng)) : Option (List (den rng)) := F66_T k a0 some
theorem F66_st {β : Type} (k : Nat) (a0 : List (den rng)) (K : A × List (List Leaf) → Option β) : evalF (F66_E k) Try.f66 (F66_a a0) K =
    F66_T k a0 (fun r => K (F66_r r)) := by kernel_rfl
theorem F66_ev {β : Type} (k : Nat) (a0 : List (den rng)) (K : A × List (List Leaf) → Option β) : evalF (F66_E k) Try.f66 (F66_a a0) K = (F66 k a0).bind fun r => K (F66_r r) := by
  rw [F66_st, F66]
  simp only [F66_T, bind_cond, Option.bind_assoc, Option.bind_some, Option.bind_none, Option.bind_fun_some]
theorem F66_con (k : Nat) (a0 : List (den rng)) : Contract Try.prog 66 (F66_a a0) ⟨F66 k a0, F66_r⟩ := con_of (envOk .none _ _ _ _) mixed Try.func66 rfl rfl (F66_ev k a0 some)
def F66_sh : List AK := [.one (.l (.sl .own rng))]
def F66_p (k : Nat) : List Arg → Option CR := cle F66_sh fun x => ⟨F66 k x.1, F66_r⟩
theorem F66_q (k : Nat) : ∀ xs cr, F66_p k xs = some cr → Contract Try.prog 66 xs cr := cle_ok fun x => F66_con k _
theorem F66_f : FnOk Try.prog 66 := .of (by kernel_rfl)
/-! 51: loop.example/netstack/impl.clone[loop.example/netstack/impl.Range] -/
def F51_t (k : Nat) : Tab := entT 66 (F66_p k) <| noTab
abbrev F51_E (k : Nat) : Env := env (F51_t k) noHint .own [] k
abbrev F51_a (a0 : List (den rng)) : List Arg := [.one (.l (.s .ro rng a0))]
def F51_r (r : List (den rng)) : A × List (List Leaf) := (.one (.s .own rng r), [])
def F51_T {β : Type} (k : Nat) (a0 : List (den rng)) (RET : List (den rng) → Option β) : Option β := cond (((a0.length : Nat) : Int) == 0) (RET []) (cond (decide ((([] : List (den rng)).length + a0.length) * 16 ≤ 140737488355328)) ((F66 k ([] ++ a0)).bind fun b1 => RET b1) none)
def F51 (k : Nat) (a0 : List (den rng)) : Option (List (den rng)) := F51_T k a0 some
theorem F51_st {β : Type} (k : Nat) (a0 : List (den rng)) (K : A × List (List Leaf) → Option β) : evalF (F51_E k) Try.f51 (F51_a a0) K =
    F51_T k a0 (fun r => K (F51_r r)) := by kernel_rfl
theorem F51_ev {β : Type} (k : Nat) (a0 : List (den rng)) (K : A × List (List Leaf) → Option β) : evalF (F51_E k) Try.f51 (F51_a a0) K = (F51 k a0).bind fun r => K (F51_r r) := by
  rw [F51_st, F51]
  simp only [F51_T, bind_cond, Option.bind_assoc, Option.bind_some, Option.bind_none, Option.bind_fun_some]
theorem F51_tOk (k : Nat) : TabFn Try.prog (F51_t k) := .ent (F66_q k) F66_f (.none)
theorem F51_con (k : Nat) (a0 : List (den rng)) : Contract Try.prog 51 (F51_a a0) ⟨F51 k a0, F51_r⟩ := con_of (envOk (F51_tOk k) _ _ _ _) mixed Try.func51 rfl rfl (F51_ev k a0 some)
def F51_sh : List AK := [.one (.l (.sl .ro rng))]
def F51_p (k : Nat) : List Arg → Option CR := cle F51_sh fun x => ⟨F51 k x.1, F51_r⟩
theorem F51_q (k : Nat) : ∀ xs cr, F51_p k xs = some cr → Contract Try.prog 51 xs cr := cle_ok fun x => F51_con k _
theorem F51_f : FnOk Try.prog 51 := .of (by kernel_rfl)
/-! 67: slices.Clip[[]byte,byte] -/
abbrev F67_E (k : Nat) : Env := env noTab noHint .own [] k
abbrev F67_a (a0 : List (den (.int .u8))) : List Arg := [.one (.l (.s .own (.int .u8) a0))]
def F67_r (r : List (den (.int .u8))) : A × List (List Leaf) := (.one (.s .own (.int .u8) r), [])
def F67_T {β : Type} (k : Nat) (a0 : List (den (.int .u8))) (RET : List (den (.int .u8)) → Option β) : Option β := cond (decide (0 ≤ ((a0.length : Nat) : Int)) && decide (((a0.length : Nat) : Int) ≤ ((a0.length : Nat) : Int))) (cond (decide (((a0.length : Nat) : Int) = ((a0.length : Nat) : Int))) (RET ((a0.take (((a0.length : Nat) : Int).toNat)).drop 0)) none) none
def F67 (k : Nat) (a0 : List (den (.int .u8))) : Option (List (den (.int .u8))) := F67_T k a0 some
theorem F67_st {β : Type} (k : Nat) (a0 : List (den (.int .u8))) (K : A × List (List Leaf) → Option β) : evalF (F67_E k) Try.f67 (F67_a a0) K =
    F67_T k a0 (fun r => K (F67_r r)) := by kernel_rfl
theorem F67_ev {β : Type} (k : Nat) (a0 : List (den (.int .u8))) (K : A × List (List Leaf) → Option β) : evalF (F67_E k) Try.f67 (F67_a a0) K = (F67 k a0).bind fun r => K (F67_r r) := by
  rw [F67_st, F67]
  simp only [F67_T, bind_cond, Option.bind_assoc, Option.bind_some, Option.bind_none, Option.bind_fun_some]
theorem F67_con (k : Nat) (a0 : List (den (.int .u8))) : Contract Try.prog 67 (F67_a a0) ⟨F67 k a0, F67_r⟩ := con_of (envOk .none _ _ _ _) mixed Try.func67 rfl rfl (F67_ev k a0 some)
def F67_sh : List AK := [.one (.l (.sl .own (.int .u8)))]
def F67_p (k : Nat) : List Arg → Option CR := cle F67_sh fun x => ⟨F67 k x.1, F67_r⟩
theorem F67_q (k : Nat) : ∀ xs cr, F67_p k xs = some cr → Contract Try.prog 67 xs cr := cle_ok fun x => F67_con k _
theorem F67_f : FnOk Try.prog 67 := .of (by kernel_rfl)
/-! 52: loop.example/netstack/impl.clone[byte] -/
def F52_t (k : Nat) : Tab := entT 67 (F67_p k) <| noTab
abbrev F52_E (k : Nat) : Env := env (F52_t k) noHint .own [] k
abbrev F52_a (a0 : List (den (.int .u8))) : List Arg := [.one (.l (.s .ro (.int .u8) a0))]
def F52_r (r : List (den (.int .u8))) : A × List (List Leaf) := (.one (.s .own (.int .u8) r), [])
def F52_T {β : Type} (k : Nat) (a0 : List (den (.int .u8))) (RET : List (den (.int .u8)) → Option β) : Option β := cond (((a0.length : Nat) : Int) == 0) (RET []) (cond (decide ((([] : List (den (.int .u8))).length + a0.length) * 1 ≤ 140737488355328)) ((F67 k ([] ++ a0)).bind fun b1 => RET b1) none)
def F52 (k : Nat) (a0 : List (den (.int .u8))) : Option (List (den (.int .u8))) := F52_T k a0 some
theorem F52_st {β : Type} (k : Nat) (a0 : List (den (.int .u8))) (K : A × List (List Leaf) → Option β) : evalF (F52_E k) Try.f52 (F52_a a0) K =
    F52_T k a0 (fun r => K (F52_r r)) := by kernel_rfl
theorem F52_ev {β : Type} (k : Nat) (a0 : List (den (.int .u8))) (K : A × List (List Leaf) → Option β) : evalF (F52_E k) Try.f52 (F52_a a0) K = (F52 k a0).bind fun r => K (F52_r r) := by
  rw [F52_st, F52]
  simp only [F52_T, bind_cond, Option.bind_assoc, Option.bind_some, Option.bind_none, Option.bind_fun_some]
theorem F52_tOk (k : Nat) : TabFn Try.prog (F52_t k) := .ent (F67_q k) F67_f (.none)
theorem F52_con (k : Nat) (a0 : List (den (.int .u8))) : Contract Try.prog 52 (F52_a a0) ⟨F52 k a0, F52_r⟩ := con_of (envOk (F52_tOk k) _ _ _ _) mixed Try.func52 rfl rfl (F52_ev k a0 some)
def F52_sh : List AK := [.one (.l (.sl .ro (.int .u8)))]
def F52_p (k : Nat) : List Arg → Option CR := cle F52_sh fun x => ⟨F52 k x.1, F52_r⟩
theorem F52_q (k : Nat) : ∀ xs cr, F52_p k xs = some cr → Contract Try.prog 52 xs cr := cle_ok fun x => F52_con k _
theorem F52_f : FnOk Try.prog 52 := .of (by kernel_rfl)
/-! 24: (loop.example/netstack/impl.Segment).copy -/
def F24_t (k : Nat) : Tab := entT 51 (F51_p k) <| entT 52 (F52_p k) <| noTab
abbrev F24_E (k : Nat) : Env := env (F24_t k) noHint .own [] k
abbrev F24_a (a0_0 a0_1 a0_2 a0_3 a0_4 : Int) (a0_5 a0_6 a0_7 a0_8 : Bool) (a0_9 : List (den rng)) (a0_10 : List (den (.int .u8))) : List Arg := [.agg [.l (.v (.int .i64 a0_0)), .l (.v (.int .i64 a0_1)), .l (.v (.int .i64 a0_2)), .l (.v (.int .i64 a0_3)), .l (.v (.int .i64 a0_4)), .l (.v (.bool a0_5)), .l (.v (.bool a0_6)), .l (.v (.bool a0_7)), .l (.v (.bool a0_8)), .l (.s .ro rng a0_9), .l (.s .ro (.int .u8) a0_10)]]
def F24_r (r : Int × Int × Int × Int × Int × Bool × Bool × Bool × Bool × List (den rng) × List (den (.int .u8))) : A × List (List Leaf) := (.agg [.v (.int .i64 r.1), .v (.int .i64 r.2.1), .v (.int .i64 r.2.2.1), .v (.int .i64 r.2.2.2.1), .v (.int .i64 r.2.2.2.2.1), .v (.bool r.2.2.2.2.2.1), .v (.bool r.2.2.2.2.2.2.1), .v (.bool r.2.2.2.2.2.2.2.1), .v (.bool r.2.2.2.2.2.2.2.2.1), .s .own rng r.2.2.2.2.2.2.2.2.2.1, .s .own (.int .u8) r.2.2.2.2.2.2.2.2.2.2], [])
def F24_T {β : Type} (k : Nat) (a0_0 a0_1 a0_2 a0_3 a0_4 : Int) (a0_5 a0_6 a0_7 a0_8 : Bool) (a0_9 : List (den rng)) (a0_10 : List (den (.int .u8))) (RET : (Int × Int × Int × Int × Int × Bool × Bool × Bool × Bool × List (den rng) × List (den (.int .u8))) → Option β) : Option β := (F51 k a0_9).bind fun b1 => (F52 k a0_10).bind fun b2 => RET (a0_0, a0_1, a0_2, a0_3, a0_4, a0_5, a0_6, a0_7, a0_8, b1, b2)
def F24 (k : Nat) (a0_0 a0_1 a0_2 a0_3 a0_4 : Int) (a0_5 a0_6 a0_7 a0_8 : Bool) (a0_9 : List (den rng)) (a0_10 : List (den (.int .u8))) : Option (Int × Int × Int × Int × Int × Bool × Bool × Bool × Bool × List (den rng) × List (den (.int .u8))) := F24_T k a0_0 a0_1 a0_2 a0_3 a0_4 a0_5 a0_6 a0_7 a0_8 a0_9 a0_10 some
theorem F24_st {β : Type} (k : Nat) (a0_0 a0_1 a0_2 a0_3 a0_4 : Int) (a0_5 a0_6 a0_7 a0_8 : Bool) (a0_9 : List (den rng)) (a0_10 : List (den (.int .u8))) (K : A × List (List Leaf) → Option β) : evalF (F24_E k) Try.f24 (F24_a a0_0 a0_1 a0_2 a0_3 a0_4 a0_5 a0_6 a0_7 a0_8 a0_9 a0_10) K =
    F24_T k a0_0 a0_1 a0_2 a0_3 a0_4 a0_5 a0_6 a0_7 a0_8 a0_9 a0_10 (fun r => K (F24_r r)) := by kernel_rfl
theorem F24_ev {β : Type} (k : Nat) (a0_0 a0_1 a0_2 a0_3 a0_4 : Int) (a0_5 a0_6 a0_7 a0_8 : Bool) (a0_9 : List (den rng)) (a0_10 : List (den (.int .u8))) (K : A × List (List Leaf) → Option β) : evalF (F24_E k) Try.f24 (F24_a a0_0 a0_1 a0_2 a0_3 a0_4 a0_5 a0_6 a0_7 a0_8 a0_9 a0_10) K = (F24 k a0_0 a0_1 a0_2 a0_3 a0_4 a0_5 a0_6 a0_7 a0_8 a0_9 a0_10).bind fun r => K (F24_r r) := by
  rw [F24_st, F24]
  simp only [F24_T, bind_cond, Option.bind_assoc, Option.bind_some, Option.bind_none, Option.bind_fun_some]
theorem F24_tOk (k : Nat) : TabFn Try.prog (F24_t k) := .ent (F51_q k) F51_f (.ent (F52_q k) F52_f (.none))
theorem F24_con (k : Nat) (a0_0 a0_1 a0_2 a0_3 a0_4 : Int) (a0_5 a0_6 a0_7 a0_8 : Bool) (a0_9 : List (den rng)) (a0_10 : List (den (.int .u8))) : Contract Try.prog 24 (F24_a a0_0 a0_1 a0_2 a0_3 a0_4 a0_5 a0_6 a0_7 a0_8 a0_9 a0_10) ⟨F24 k a0_0 a0_1 a0_2 a0_3 a0_4 a0_5 a0_6 a0_7 a0_8 a0_9 a0_10, F24_r⟩ := con_of (envOk (F24_tOk k) _ _ _ _) mixed Try.func24 rfl rfl (F24_ev k a0_0 a0_1 a0_2 a0_3 a0_4 a0_5 a0_6 a0_7 a0_8 a0_9 a0_10 some)
def F24_sh : List AK := [.agg [.l (.int .i64), .l (.int .i64), .l (.int .i64), .l (.int .i64), .l (.int .i64), .l (.bool), .l (.bool), .l (.bool), .l (.bool), .l (.sl .ro rng), .l (.sl .ro (.int .u8))]]
def F24_p (k : Nat) : List Arg → Option CR := cle F24_sh fun x => ⟨F24 k x.1.1 x.1.2.1 x.1.2.2.1 x.1.2.2.2.1 x.1.2.2.2.2.1 x.1.2.2.2.2.2.1 x.1.2.2.2.2.2.2.1 x.1.2.2.2.2.2.2.2.1 x.1.2.2.2.2.2.2.2.2.1 x.1.2.2.2.2.2.2.2.2.2.1 x.1.2.2.2.2.2.2.2.2.2.2.1, F24_r⟩
theorem F24_q (k : Nat) : ∀ xs cr, F24_p k xs = some cr → Contract Try.prog 24 xs cr := cle_ok fun x => F24_con k _ _ _ _ _ _ _ _ _ _ _
theorem F24_f : FnOk Try.prog 24 := .of (by kernel_rfl)
/-! 58: slices.Grow[[]byte,byte] -/
abbrev F58_E (k : Nat) : Env := env noTab noHint .own [] k
abbrev F58_a (a1 : Int) : List Arg := [.one (.l (.v (.slice none 0 0))), .one (.l (.v (.int .i64 a1)))]
def F58_r (r : List (den (.int .u8))) : A × List (List Leaf) := (.one (.s .own (.int .u8) r), [])
def F58_T {β : Type} (k : Nat) (a1 : Int) (RET : List (den (.int .u8)) → Option β) : Option β := cond (decide (a1 < 0)) none (cond (decide ((IntKind.i64.wrap (a1 - 0)) > 0)) (cond (decide (0 ≤ 0) && decide (0 ≤ ((0 : Nat) : Int))) (cond (decide (0 < (IntKind.i64.wrap (a1 - 0))) && decide ((IntKind.i64.wrap (a1 - 0)) * (1 : Nat) ≤ 140737488355328)) (cond (decide (0 ≤ 0) && decide (0 ≤ (((List.replicate ((IntKind.i64.wrap (a1 - 0)).toNat) (dflt (.int .u8))).length : Nat) : Int))) (RET (((List.replicate ((IntKind.i64.wrap (a1 - 0)).toNat) (dflt (.int .u8))).take 0).drop 0)) none) none) none) (RET []))
def F58 (k : Nat) (a1 : Int) : Option (List (den (.int .u8))) := F58_T k a1 some
theorem F58_st {β : Type} (k : Nat) (a1 : Int) (K : A × List (List Leaf) → Option β) : evalF (F58_E k) Try.f58 (F58_a a1) K =
    F58_T k a1 (fun r => K (F58_r r)) := by kernel_rfl
theorem F58_ev {β : Type} (k : Nat) (a1 : Int) (K : A × List (List Leaf) → Option β) : evalF (F58_E k) Try.f58 (F58_a a1) K = (F58 k a1).bind fun r => K (F58_r r) := by
  rw [F58_st, F58]
  simp only [F58_T, bind_cond, Option.bind_assoc, Option.bind_some, Option.bind_none, Option.bind_fun_some]
theorem F58_con (k : Nat) (a1 : Int) : Contract Try.prog 58 (F58_a a1) ⟨F58 k a1, F58_r⟩ := con_of (envOk .none _ _ _ _) mixed Try.func58 rfl rfl (F58_ev k a1 some)
def F58_sh : List AK := [.one (.l (.nil)), .one (.l (.int .i64))]
def F58_p (k : Nat) : List Arg → Option CR := cle F58_sh fun x => ⟨F58 k x.2.1, F58_r⟩
theorem F58_q (k : Nat) : ∀ xs cr, F58_p k xs = some cr → Contract Try.prog 58 xs cr := cle_ok fun x => F58_con k _
theorem F58_f : FnOk Try.prog 58 := .of (by kernel_rfl)
/-! 38: slices.Concat[[]byte,byte] -/
def F38_h : Nat → Hint
  | 0 => ⟨[(0, .plain), (3, .plain), (9, .plain), (10, .plain), (11, .plain)], []⟩
  | 2 => ⟨[(6, .own .own (.int .u8) []), (25, .plain), (26, .plain), (27, .plain)], []⟩
  | _ => ⟨[], []⟩
def F38_t (k : Nat) : Tab := entT 58 (F58_p k) <| noTab
abbrev F38_E (k : Nat) : Env := env (F38_t k) F38_h .own [] k
abbrev F38_a (a0 : List (den (.sl (.int .u8)))) : List Arg := [.one (.l (.s .ro (.sl (.int .u8)) a0))]
def F38_r (r : List (den (.int .u8))) : A × List (List Leaf) := (.one (.s .own (.int .u8) r), [])
def F38_s2 (a0 : List (den (.sl (.int .u8)))) (x27_2 : Int) (m6900_2 : List (den (.int .u8))) : St := ⟨dz 6 ((.one (.a (.cell 6900) 0 0 none)) :: dz 18 ((.one (.s .ro (.sl (.int .u8)) a0)) :: (.one (.v (.int .i64 ((a0.length : Nat) : Int)))) :: (.one (.v (.int .i64 x27_2))) :: dz 8 [])), [(6900, ⟨.s .own (.int .u8) m6900_2, 0, 0⟩)]⟩
def F38_l2_T {β : Type} (k : Nat) (a0 : List (den (.sl (.int .u8)))) (NX : Int → List (den (.int .u8)) → Option β) (RET : List (den (.int .u8)) → Option β) (x27_2 : Int) (m6900_2 : List (den (.int .u8))) : Option β := cond (decide (x27_2 < ((a0.length : Nat) : Int))) (cond (decide (0 ≤ x27_2)) (cond (decide (x27_2 < ((a0.length : Nat) : Int))) (cond (decide ((m6900_2.length + (atI a0 x27_2).length) * 1 ≤ 140737488355328)) (NX (IntKind.i64.wrap (x27_2 + 1)) (m6900_2 ++ (atI a0 x27_2))) none) none) none) (RET m6900_2)
def F38_l2 (k : Nat) (a0 : List (den (.sl (.int .u8)))) : Nat → Int → List (den (.int .u8)) → Option (List (den (.int .u8)))
  | 0, _, _ => none
  | n + 1, x27_2, m6900_2 => F38_l2_T k a0 (fun x27_2 m6900_2 => F38_l2 k a0 n x27_2 m6900_2) some x27_2 m6900_2
theorem F38_l2_rd {β : Type} (k n : Nat) (a0 : List (den (.sl (.int .u8)))) (x27_2 : Int) (m6900_2 : List (den (.int .u8))) (K : A × List (List Leaf) → Option β) :
    loopG (F38_E k) Try.f38 [1, 1, 1, 1, 0, 1, 0] 2 (kontAt (F38_E k) [1, 1, 1, 1, 0, 1, 0] (bodyOf Try.f38) 0 (endC (F38_E k) Try.f38 (F38_a a0) K)) (n + 1) (F38_s2 a0 x27_2 m6900_2) =
    F38_l2_T k a0 (fun x27_2 m6900_2 => loopG (F38_E k) Try.f38 [1, 1, 1, 1, 0, 1, 0] 2 (kontAt (F38_E k) [1, 1, 1, 1, 0, 1, 0] (bodyOf Try.f38) 0 (endC (F38_E k) Try.f38 (F38_a a0) K)) n (F38_s2 a0 x27_2 m6900_2)) (fun r => K (F38_r r)) x27_2 m6900_2 := by kernel_rfl
theorem F38_l2_lp {β : Type} (k : Nat) (a0 : List (den (.sl (.int .u8)))) (K : A × List (List Leaf) → Option β) (n : Nat) : ∀ (x27_2 : Int) (m6900_2 : List (den (.int .u8))), loopG (F38_E k) Try.f38 [1, 1, 1, 1, 0, 1, 0] 2 (kontAt (F38_E k) [1, 1, 1, 1, 0, 1, 0] (bodyOf Try.f38) 0 (endC (F38_E k) Try.f38 (F38_a a0) K)) n (F38_s2 a0 x27_2 m6900_2) =
    (F38_l2 k a0 n x27_2 m6900_2).bind fun r => K (F38_r r) := by
  induction n with
  | zero => intros; rfl
  | succ n ih =>
    intros
    rw [F38_l2_rd, F38_l2]
    simp only [F38_l2_T, bind_cond, Option.bind_assoc, Option.bind_some, Option.bind_none, Option.bind_fun_some, ih]
def F38_s0 (a0 : List (den (.sl (.int .u8)))) (x3_0 x11_0 : Int) : St := ⟨(.one (.s .ro (.sl (.int .u8)) a0)) :: (.one .d) :: (.one .d) :: (.one (.v (.int .i64 x3_0))) :: dz 5 ((.one (.s .ro (.sl (.int .u8)) a0)) :: (.one (.v (.int .i64 ((a0.length : Nat) : Int)))) :: (.one (.v (.int .i64 x11_0))) :: dz 24 []), []⟩
def F38_l0_T {β : Type} (k : Nat) (a0 : List (den (.sl (.int .u8)))) (NX : Int → Int → Option β) (LP2 : Int → List (den (.int .u8)) → Option β) (x3_0 x11_0 : Int) : Option β := cond (decide (x11_0 < ((a0.length : Nat) : Int))) (cond (decide (0 ≤ x11_0)) (cond (decide (x11_0 < ((a0.length : Nat) : Int))) (cond (decide ((IntKind.i64.wrap (x3_0 + (((atI a0 x11_0).length : Nat) : Int))) < 0)) none (NX (IntKind.i64.wrap (x3_0 + (((atI a0 x11_0).length : Nat) : Int))) (IntKind.i64.wrap (x11_0 + 1)))) none) none) ((F58 k x3_0).bind fun b1 => LP2 0 b1)
def F38_l0 (k : Nat) (a0 : List (den (.sl (.int .u8)))) : Nat → Int → Int → Option (List (den (.int .u8)))
  | 0, _, _ => none
  | n + 1, x3_0, x11_0 => F38_l0_T k a0 (fun x3_0 x11_0 => F38_l0 k a0 n x3_0 x11_0) (fun x27_2 m6900_2 => F38_l2 k a0 k x27_2 m6900_2) x3_0 x11_0
theorem F38_l0_rd {β : Type} (k n : Nat) (a0 : List (den (.sl (.int .u8)))) (x3_0 x11_0 : Int) (K : A × List (List Leaf) → Option β) :
    loopG (F38_E k) Try.f38 [1, 1, 0, 1, 0] 0 (kontAt (F38_E k) [1, 1, 0, 1, 0] (bodyOf Try.f38) 0 (endC (F38_E k) Try.f38 (F38_a a0) K)) (n + 1) (F38_s0 a0 x3_0 x11_0) =
    F38_l0_T k a0 (fun x3_0 x11_0 => loopG (F38_E k) Try.f38 [1, 1, 0, 1, 0] 0 (kontAt (F38_E k) [1, 1, 0, 1, 0] (bodyOf Try.f38) 0 (endC (F38_E k) Try.f38 (F38_a a0) K)) n (F38_s0 a0 x3_0 x11_0)) (fun x27_2 m6900_2 => loopG (F38_E k) Try.f38 [1, 1, 1, 1, 0, 1, 0] 2 (kontAt (F38_E k) [1, 1, 1, 1, 0, 1, 0] (bodyOf Try.f38) 0 (endC (F38_E k) Try.f38 (F38_a a0) K)) k (F38_s2 a0 x27_2 m6900_2)) x3_0 x11_0 := by kernel_rfl
theorem F38_l0_lp {β : Type} (k : Nat) (a0 : List (den (.sl (.int .u8)))) (K : A × List (List Leaf) → Option β) (n : Nat) : ∀ (x3_0 x11_0 : Int), loopG (F38_E k) Try.f38 [1, 1, 0, 1, 0] 0 (kontAt (F38_E k) [1, 1, 0, 1, 0] (bodyOf Try.f38) 0 (endC (F38_E k) Try.f38 (F38_a a0) K)) n (F38_s0 a0 x3_0 x11_0) =
    (F38_l0 k a0 n x3_0 x11_0).bind fun r => K (F38_r r) := by
  induction n with
  | zero => intros; rfl
  | succ n ih =>
    intros
    rw [F38_l0_rd, F38_l0]
    simp only [F38_l0_T, bind_cond, Option.bind_assoc, Option.bind_some, Option.bind_none, Option.bind_fun_some, F38_l2_lp, ih]
def F38_T {β : Type} (k : Nat) (a0 : List (den (.sl (.int .u8)))) (LP0 : Int → Int → Option β) : Option β := LP0 0 0
def F38 (k : Nat) (a0 : List (den (.sl (.int .u8)))) : Option (List (den (.int .u8))) := F38_T k a0 (fun x3_0 x11_0 => F38_l0 k a0 k x3_0 x11_0)
theorem F38_st {β : Type} (k : Nat) (a0 : List (den (.sl (.int .u8)))) (K : A × List (List Leaf) → Option β) : evalF (F38_E k) Try.f38 (F38_a a0) K =
    F38_T k a0 (fun x3_0 x11_0 => loopG (F38_E k) Try.f38 [1, 1, 0, 1, 0] 0 (kontAt (F38_E k) [1, 1, 0, 1, 0] (bodyOf Try.f38) 0 (endC (F38_E k) Try.f38 (F38_a a0) K)) k (F38_s0 a0 x3_0 x11_0)) := by kernel_rfl
theorem F38_ev {β : Type} (k : Nat) (a0 : List (den (.sl (.int .u8)))) (K : A × List (List Leaf) → Option β) : evalF (F38_E k) Try.f38 (F38_a a0) K = (F38 k a0).bind fun r => K (F38_r r) := by
  rw [F38_st, F38]
  simp only [F38_T, bind_cond, Option.bind_assoc, Option.bind_some, Option.bind_none, Option.bind_fun_some, F38_l0_lp]
theorem F38_tOk (k : Nat) : TabFn Try.prog (F38_t k) := .ent (F58_q k) F58_f (.none)
theorem F38_con (k : Nat) (a0 : List (den (.sl (.int .u8)))) : Contract Try.prog 38 (F38_a a0) ⟨F38 k a0, F38_r⟩ := con_of (envOk (F38_tOk k) _ _ _ _) mixed Try.func38 rfl rfl (F38_ev k a0 some)
def F38_sh : List AK := [.one (.l (.sl .ro (.sl (.int .u8))))]
def F38_p (k : Nat) : List Arg → Option CR := cle F38_sh fun x => ⟨F38 k x.1, F38_r⟩
theorem F38_q (k : Nat) : ∀ xs cr, F38_p k xs = some cr → Contract Try.prog 38 xs cr := cle_ok fun x => F38_con k _
theorem F38_f : FnOk Try.prog 38 := .of (by kernel_rfl)
/-! 11: loop.example/netstack/impl.SegmentJoin -/
def F11_t (k : Nat) : Tab := entT 10 (F10_p k) <| entT 36 (F36_p k) <| entT 9 (F9_p k) <| entT 37 (F37_p k) <| entT 24 (F24_p k) <| entT 38 (F38_p k) <| noTab
abbrev F11_E (k : Nat) : Env := env (F11_t k) noHint .own [] k
abbrev F11_a (a0_0 a0_1 a0_2 a0_3 a0_4 : Int) (a0_5 a0_6 a0_7 a0_8 : Bool) (a0_9 : List (den rng)) (a0_10 : List (den (.int .u8))) (a1_0 a1_1 a1_2 a1_3 a1_4 : Int) (a1_5 a1_6 a1_7 a1_8 : Bool) (a1_9 : List (den rng)) (a1_10 : List (den (.int .u8))) : List Arg := [.agg [.l (.v (.int .i64 a0_0)), .l (.v (.int .i64 a0_1)), .l (.v (.int .i64 a0_2)), .l (.v (.int .i64 a0_3)), .l (.v (.int .i64 a0_4)), .l (.v (.bool a0_5)), .l (.v (.bool a0_6)), .l (.v (.bool a0_7)), .l (.v (.bool a0_8)), .l (.s .ro rng a0_9), .l (.s .ro (.int .u8) a0_10)], .agg [.l (.v (.int .i64 a1_0)), .l (.v (.int .i64 a1_1)), .l (.v (.int .i64 a1_2)), .l (.v (.int .i64 a1_3)), .l (.v (.int .i64 a1_4)), .l (.v (.bool a1_5)), .l (.v (.bool a1_6)), .l (.v (.bool a1_7)), .l (.v (.bool a1_8)), .l (.s .ro rng a1_9), .l (.s .ro (.int .u8) a1_10)]]
def F11_r (r : Int × Int × Int × Int × Int × Bool × Bool × Bool × Bool × List (den rng) × List (den (.int .u8)) × Bool) : A × List (List Leaf) := (.tup [(true, [.v (.int .i64 r.1), .v (.int .i64 r.2.1), .v (.int .i64 r.2.2.1), .v (.int .i64 r.2.2.2.1), .v (.int .i64 r.2.2.2.2.1), .v (.bool r.2.2.2.2.2.1), .v (.bool r.2.2.2.2.2.2.1), .v (.bool r.2.2.2.2.2.2.2.1), .v (.bool r.2.2.2.2.2.2.2.2.1), .s .own rng r.2.2.2.2.2.2.2.2.2.1, .s .own (.int .u8) r.2.2.2.2.2.2.2.2.2.2.1]), (false, [.v (.bool r.2.2.2.2.2.2.2.2.2.2.2)])], [])
def F11_T {β : Type} (k : Nat) (a0_0 a0_1 a0_2 a0_3 a0_4 : Int) (a0_5 a0_6 a0_7 a0_8 : Bool) (a0_9 : List (den rng)) (a0_10 : List (den (.int .u8))) (a1_0 a1_1 a1_2 a1_3 a1_4 : Int) (a1_5 a1_6 a1_7 a1_8 : Bool) (a1_9 : List (den rng)) (a1_10 : List (den (.int .u8))) (RET : (Int × Int × Int × Int × Int × Bool × Bool × Bool × Bool × List (den rng) × List (den (.int .u8)) × Bool) → Option β) : Option β := (F10 k a0_0 a0_1 a0_2 a0_3 a0_4 a0_5 a0_6 a0_7 a0_8 a0_9 a0_10).bind fun b1 => cond (!b1) (RET (0, 0, 0, 0, 0, false, false, false, false, [], [], false)) ((F10 k a1_0 a1_1 a1_2 a1_3 a1_4 a1_5 a1_6 a1_7 a1_8 a1_9 a1_10).bind fun b2 => cond (!b2) (RET (0, 0, 0, 0, 0, false, false, false, false, [], [], false)) (cond (a0_0 != a1_0) (RET (0, 0, 0, 0, 0, false, false, false, false, [], [], false)) (cond (a0_1 != a1_1) (RET (0, 0, 0, 0, 0, false, false, false, false, [], [], false)) (cond (!(a0_6 == a1_6)) (RET (0, 0, 0, 0, 0, false, false, false, false, [], [], false)) (cond (a0_3 != a1_3) (RET (0, 0, 0, 0, 0, false, false, false, false, [], [], false)) (cond (a0_4 != a1_4) (RET (0, 0, 0, 0, 0, false, false, false, false, [], [], false)) ((F36 k a0_9 a1_9).bind fun b3 => cond (!b3) (RET (0, 0, 0, 0, 0, false, false, false, false, [], [], false)) (cond a0_8 (RET (0, 0, 0, 0, 0, false, false, false, false, [], [], false)) (cond a1_8 (RET (0, 0, 0, 0, 0, false, false, false, false, [], [], false)) (cond (((a0_10.length : Nat) : Int) == 0) (RET (0, 0, 0, 0, 0, false, false, false, false, [], [], false)) (cond (((a1_10.length : Nat) : Int) == 0) (RET (0, 0, 0, 0, 0, false, false, false, false, [], [], false)) (cond a0_7 (RET (0, 0, 0, 0, 0, false, false, false, false, [], [], false)) (cond a1_5 (RET (0, 0, 0, 0, 0, false, false, false, false, [], [], false)) ((F9 k a0_0 a0_1 a0_2 a0_3 a0_4 a0_5 a0_6 a0_7 a0_8 a0_9 a0_10).bind fun b4 => (F37 k (IntKind.i64.wrap (a0_2 + b4))).bind fun b5 => cond (a1_2 != b5) (RET (0, 0, 0, 0, 0, false, false, false, false, [], [], false)) (cond (decide ((IntKind.i64.wrap (((a0_10.length : Nat) : Int) + ((a1_10.length : Nat) : Int))) > 12)) (RET (0, 0, 0, 0, 0, false, false, false, false, [], [], false)) ((F24 k a0_0 a0_1 a0_2 a0_3 a0_4 a0_5 a0_6 a0_7 a0_8 a0_9 a0_10).bind fun b6 => (F38 k [a0_10, a1_10]).bind fun b7 => (F24 k b6.1 b6.2.1 b6.2.2.1 b6.2.2.2.1 b6.2.2.2.2.1 b6.2.2.2.2.2.1 b6.2.2.2.2.2.2.1 a1_7 b6.2.2.2.2.2.2.2.2.1 b6.2.2.2.2.2.2.2.2.2.1 b7).bind fun b8 => RET (b8.1, b8.2.1, b8.2.2.1, b8.2.2.2.1, b8.2.2.2.2.1, b8.2.2.2.2.2.1, b8.2.2.2.2.2.2.1, b8.2.2.2.2.2.2.2.1, b8.2.2.2.2.2.2.2.2.1, b8.2.2.2.2.2.2.2.2.2.1, b8.2.2.2.2.2.2.2.2.2.2, true)))))))))))))))))
def F11 (k : Nat) (a0_0 a0_1 a0_2 a0_3 a0_4 : Int) (a0_5 a0_6 a0_7 a0_8 : Bool) (a0_9 : List (den rng)) (a0_10 : List (den (.int .u8))) (a1_0 a1_1 a1_2 a1_3 a1_4 : Int) (a1_5 a1_6 a1_7 a1_8 : Bool) (a1_9 : List (den rng)) (a1_10 : List (den (.int .u8))) : Option (Int × Int × Int × Int × Int × Bool × Bool × Bool × Bool × List (den rng) × List (den (.int .u8)) × Bool) := F11_T k a0_0 a0_1 a0_2 a0_3 a0_4 a0_5 a0_6 a0_7 a0_8 a0_9 a0_10 a1_0 a1_1 a1_2 a1_3 a1_4 a1_5 a1_6 a1_7 a1_8 a1_9 a1_10 some
theorem F11_st {β : Type} (k : Nat) (a0_0 a0_1 a0_2 a0_3 a0_4 : Int) (a0_5 a0_6 a0_7 a0_8 : Bool) (a0_9 : List (den rng)) (a0_10 : List (den (.int .u8))) (a1_0 a1_1 a1_2 a1_3 a1_4 : Int) (a1_5 a1_6 a1_7 a1_8 : Bool) (a1_9 : List (den rng)) (a1_10 : List (den (.int .u8))) (K : A × List (List Leaf) → Option β) : evalF (F11_E k) Try.f11 (F11_a a0_0 a0_1 a0_2 a0_3 a0_4 a0_5 a0_6 a0_7 a0_8 a0_9 a0_10 a1_0 a1_1 a1_2 a1_3 a1_4 a1_5 a1_6 a1_7 a1_8 a1_9 a1_10) K =
    F11_T k a0_0 a0_1 a0_2 a0_3 a0_4 a0_5 a0_6 a0_7 a0_8 a0_9 a0_10 a1_0 a1_1 a1_2 a1_3 a1_4 a1_5 a1_6 a1_7 a1_8 a1_9 a1_10 (fun r => K (F11_r r)) := by kernel_rfl
theorem F11_ev {β : Type} (k : Nat) (a0_0 a0_1 a0_2 a0_3 a0_4 : Int) (a0_5 a0_6 a0_7 a0_8 : Bool) (a0_9 : List (den rng)) (a0_10 : List (den (.int .u8))) (a1_0 a1_1 a1_2 a1_3 a1_4 : Int) (a1_5 a1_6 a1_7 a1_8 : Bool) (a1_9 : List (den rng)) (a1_10 : List (den (.int .u8))) (K : A × List (List Leaf) → Option β) : evalF (F11_E k) Try.f11 (F11_a a0_0 a0_1 a0_2 a0_3 a0_4 a0_5 a0_6 a0_7 a0_8 a0_9 a0_10 a1_0 a1_1 a1_2 a1_3 a1_4 a1_5 a1_6 a1_7 a1_8 a1_9 a1_10) K = (F11 k a0_0 a0_1 a0_2 a0_3 a0_4 a0_5 a0_6 a0_7 a0_8 a0_9 a0_10 a1_0 a1_1 a1_2 a1_3 a1_4 a1_5 a1_6 a1_7 a1_8 a1_9 a1_10).bind fun r => K (F11_r r) := by
  rw [F11_st, F11]
  simp only [F11_T, bind_cond, Option.bind_assoc, Option.bind_some, Option.bind_none, Option.bind_fun_some]
theorem F11_tOk (k : Nat) : TabFn Try.prog (F11_t k) := .ent (F10_q k) F10_f (.ent (F36_q k) F36_f (.ent (F9_q k) F9_f (.ent (F37_q k) F37_f (.ent (F24_q k) F24_f (.ent (F38_q k) F38_f (.none))))))
theorem F11_con (k : Nat) (a0_0 a0_1 a0_2 a0_3 a0_4 : Int) (a0_5 a0_6 a0_7 a0_8 : Bool) (a0_9 : List (den rng)) (a0_10 : List (den (.int .u8))) (a1_0 a1_1 a1_2 a1_3 a1_4 : Int) (a1_5 a1_6 a1_7 a1_8 : Bool) (a1_9 : List (den rng)) (a1_10 : List (den (.int .u8))) : Contract Try.prog 11 (F11_a a0_0 a0_1 a0_2 a0_3 a0_4 a0_5 a0_6 a0_7 a0_8 a0_9 a0_10 a1_0 a1_1 a1_2 a1_3 a1_4 a1_5 a1_6 a1_7 a1_8 a1_9 a1_10) ⟨F11 k a0_0 a0_1 a0_2 a0_3 a0_4 a0_5 a0_6 a0_7 a0_8 a0_9 a0_10 a1_0 a1_1 a1_2 a1_3 a1_4 a1_5 a1_6 a1_7 a1_8 a1_9 a1_10, F11_r⟩ := con_of (envOk (F11_tOk k) _ _ _ _) mixed Try.func11 rfl rfl (F11_ev k a0_0 a0_1 a0_2 a0_3 a0_4 a0_5 a0_6 a0_7 a0_8 a0_9 a0_10 a1_0 a1_1 a1_2 a1_3 a1_4 a1_5 a1_6 a1_7 a1_8 a1_9 a1_10 some)
def F11_sh : List AK := [.agg [.l (.int .i64), .l (.int .i64), .l (.int .i64), .l (.int .i64), .l (.int .i64), .l (.bool), .l (.bool), .l (.bool), .l (.bool), .l (.sl .ro rng), .l (.sl .ro (.int .u8))], .agg [.l (.int .i64), .l (.int .i64), .l (.int .i64), .l (.int .i64), .l (.int .i64), .l (.bool), .l (.bool), .l (.bool), .l (.bool), .l (.sl .ro rng), .l (.sl .ro (.int .u8))]]
def F11_p (k : Nat) : List Arg → Option CR := cle F11_sh fun x => ⟨F11 k x.1.1 x.1.2.1 x.1.2.2.1 x.1.2.2.2.1 x.1.2.2.2.2.1 x.1.2.2.2.2.2.1 x.1.2.2.2.2.2.2.1 x.1.2.2.2.2.2.2.2.1 x.1.2.2.2.2.2.2.2.2.1 x.1.2.2.2.2.2.2.2.2.2.1 x.1.2.2.2.2.2.2.2.2.2.2.1 x.2.1.1 x.2.1.2.1 x.2.1.2.2.1 x.2.1.2.2.2.1 x.2.1.2.2.2.2.1 x.2.1.2.2.2.2.2.1 x.2.1.2.2.2.2.2.2.1 x.2.1.2.2.2.2.2.2.2.1 x.2.1.2.2.2.2.2.2.2.2.1 x.2.1.2.2.2.2.2.2.2.2.2.1 x.2.1.2.2.2.2.2.2.2.2.2.2.1, F11_r⟩
theorem F11_q (k : Nat) : ∀ xs cr, F11_p k xs = some cr → Contract Try.prog 11 xs cr := cle_ok fun x => F11_con k _ _ _ _ _ _ _ _ _ _ _ _ _ _ _ _ _ _ _ _ _ _
theorem F11_f : FnOk Try.prog 11 := .of (by kernel_rfl)
/-! 25: slices.Clip[[]loop.example/netstack/impl.Segment,loop.example/netstack/impl.Segment] -/
abbrev F25_E (k : Nat) : Env := env noTab noHint .own [] k
abbrev F25_a (a0 : List (den seg)) : List Arg := [.one (.l (.s .own seg a0))]
def F25_r (r : List (den seg)) : A × List (List Leaf) := (.one (.s .own seg r), [])
def F25_T {β : Type} (k : Nat) (a0 : List (den seg)) (RET : List (den seg) → Option β) : Option β := cond (decide (0 ≤ ((a0.length : Nat) : Int)) && decide (((a0.length : Nat) : Int) ≤ ((a0.length : Nat) : Int))) (cond (decide (((a0.length : Nat) : Int) = ((a0.length : Nat) : Int))) (RET ((a0.take (((a0.length : Nat) : Int).toNat)).drop 0)) none) none
def F25 (k : Nat) (a0 : List (den seg)) : Option (List (den seg)) := F25_T k a0 some
theorem F25_st {β : Type} (k : Nat) (a0 : List (den seg)) (K : A × List (List Leaf) → Option β) : evalF (F25_E k) Try.f25 (F25_a a0) K =
    F25_T k a0 (fun r => K (F25_r r)) := by kernel_rfl
theorem F25_ev {β : Type} (k : Nat) (a0 : List (den seg)) (K : A × List (List Leaf) → Option β) : evalF (F25_E k) Try.f25 (F25_a a0) K = (F25 k a0).bind fun r => K (F25_r r) := by
  rw [F25_st, F25]
  simp only [F25_T, bind_cond, Option.bind_assoc, Option.bind_some, Option.bind_none, Option.bind_fun_some]
theorem F25_con (k : Nat) (a0 : List (den seg)) : Contract Try.prog 25 (F25_a a0) ⟨F25 k a0, F25_r⟩ := con_of (envOk .none _ _ _ _) mixed Try.func25 rfl rfl (F25_ev k a0 some)
def F25_sh : List AK := [.one (.l (.sl .own seg))]
def F25_p (k : Nat) : List Arg → Option CR := cle F25_sh fun x => ⟨F25 k x.1, F25_r⟩
theorem F25_q (k : Nat) : ∀ xs cr, F25_p k xs = some cr → Contract Try.prog 25 xs cr := cle_ok fun x => F25_con k _
theorem F25_f : FnOk Try.prog 25 := .of (by kernel_rfl)
/-! 6: loop.example/netstack/impl.SegmentsJoined -/
def F6_h : Nat → Hint
  | 0 => ⟨[(3, .own .own seg []), (9, .plain), (10, .plain), (11, .plain)], []⟩
  | _ => ⟨[], []⟩
def F6_t (k : Nat) : Tab := entT 10 (F10_p k) <| entT 11 (F11_p k) <| entT 24 (F24_p k) <| entT 25 (F25_p k) <| noTab
abbrev F6_E (k : Nat) : Env := env (F6_t k) F6_h .own [] k
abbrev F6_a (a0 : List (den seg)) : List Arg := [.one (.l (.s .ro seg a0))]
def F6_r (r : List (den seg)) : A × List (List Leaf) := (.one (.s .own seg r), [])
def F6_s0 (a0 : List (den seg)) (x11_0 : Int) (m3900_0 : List (den seg)) : St := ⟨dz 3 ((.one (.a (.cell 3900) 0 0 none)) :: dz 5 ((.one (.s .ro seg a0)) :: (.one (.v (.int .i64 ((a0.length : Nat) : Int)))) :: (.one (.v (.int .i64 x11_0))) :: dz 34 [])), [(3900, ⟨.s .own seg m3900_0, 0, 0⟩)]⟩
def F6_l0_j1 {β : Type} (k : Nat) (a0 : List (den seg)) (NX : Int → List (den seg) → Option β) (RET : List (den seg) → Option β) (x11_0 : Int) (m3900_0 : List (den seg)) : Option β := (F24 k ((atI a0 x11_0).1) (((atI a0 x11_0).2).1) ((((atI a0 x11_0).2).2).1) (((((atI a0 x11_0).2).2).2).1) ((((((atI a0 x11_0).2).2).2).2).1) (((((((atI a0 x11_0).2).2).2).2).2).1) ((((((((atI a0 x11_0).2).2).2).2).2).2).1) (((((((((atI a0 x11_0).2).2).2).2).2).2).2).1) ((((((((((atI a0 x11_0).2).2).2).2).2).2).2).2).1) (((((((((((atI a0 x11_0).2).2).2).2).2).2).2).2).2).1) (((((((((((atI a0 x11_0).2).2).2).2).2).2).2).2).2).2)).bind fun b4 => cond (decide ((m3900_0.length + [b4].length) * 96 ≤ 140737488355328)) (NX (IntKind.i64.wrap (x11_0 + 1)) (m3900_0 ++ [b4])) none
def F6_l0_T {β : Type} (k : Nat) (a0 : List (den seg)) (NX : Int → List (den seg) → Option β) (RET : List (den seg) → Option β) (x11_0 : Int) (m3900_0 : List (den seg)) : Option β := cond (decide (x11_0 < ((a0.length : Nat) : Int))) (cond (decide (0 ≤ x11_0)) (cond (decide (x11_0 < ((a0.length : Nat) : Int))) ((F10 k ((atI a0 x11_0).1) (((atI a0 x11_0).2).1) ((((atI a0 x11_0).2).2).1) (((((atI a0 x11_0).2).2).2).1) ((((((atI a0 x11_0).2).2).2).2).1) (((((((atI a0 x11_0).2).2).2).2).2).1) ((((((((atI a0 x11_0).2).2).2).2).2).2).1) (((((((((atI a0 x11_0).2).2).2).2).2).2).2).1) ((((((((((atI a0 x11_0).2).2).2).2).2).2).2).2).1) (((((((((((atI a0 x11_0).2).2).2).2).2).2).2).2).2).1) (((((((((((atI a0 x11_0).2).2).2).2).2).2).2).2).2).2)).bind fun b1 => cond (!b1) (RET []) (cond (decide (((m3900_0.length : Nat) : Int) > 0)) (cond (decide (0 ≤ (IntKind.i64.wrap (((m3900_0.length : Nat) : Int) - 1)))) (cond (decide ((IntKind.i64.wrap (((m3900_0.length : Nat) : Int) - 1)) < ((m3900_0.length : Nat) : Int))) ((F11 k ((atI m3900_0 (IntKind.i64.wrap (((m3900_0.length : Nat) : Int) - 1))).1) (((atI m3900_0 (IntKind.i64.wrap (((m3900_0.length : Nat) : Int) - 1))).2).1) ((((atI m3900_0 (IntKind.i64.wrap (((m3900_0.length : Nat) : Int) - 1))).2).2).1) (((((atI m3900_0 (IntKind.i64.wrap (((m3900_0.length : Nat) : Int) - 1))).2).2).2).1) ((((((atI m3900_0 (IntKind.i64.wrap (((m3900_0.length : Nat) : Int) - 1))).2).2).2).2).1) (((((((atI m3900_0 (IntKind.i64.wrap (((m3900_0.length : Nat) : Int) - 1))).2).2).2).2).2).1) ((((((((atI m3900_0 (IntKind.i64.wrap (((m3900_0.length : Nat) : Int) - 1))).2).2).2).2).2).2).1) (((((((((atI m3900_0 (IntKind.i64.wrap (((m3900_0.length : Nat) : Int) - 1))).2).2).2).2).2).2).2).1) ((((((((((atI m3900_0 (IntKind.i64.wrap (((m3900_0.length : Nat) : Int) - 1))).2).2).2).2).2).2).2).2).1) (((((((((((atI m3900_0 (IntKind.i64.wrap (((m3900_0.length : Nat) : Int) - 1))).2).2).2).2).2).2).2).2).2).1) (((((((((((atI m3900_0 (IntKind.i64.wrap (((m3900_0.length : Nat) : Int) - 1))).2).2).2).2).2).2).2).2).2).2) ((atI a0 x11_0).1) (((atI a0 x11_0).2).1) ((((atI a0 x11_0).2).2).1) (((((atI a0 x11_0).2).2).2).1) ((((((atI a0 x11_0).2).2).2).2).1) (((((((atI a0 x11_0).2).2).2).2).2).1) ((((((((atI a0 x11_0).2).2).2).2).2).2).1) (((((((((atI a0 x11_0).2).2).2).2).2).2).2).1) ((((((((((atI a0 x11_0).2).2).2).2).2).2).2).2).1) (((((((((((atI a0 x11_0).2).2).2).2).2).2).2).2).2).1) (((((((((((atI a0 x11_0).2).2).2).2).2).2).2).2).2).2)).bind fun b2 => cond b2.2.2.2.2.2.2.2.2.2.2.2 (cond (decide (0 ≤ (IntKind.i64.wrap (((m3900_0.length : Nat) : Int) - 1)))) (cond (decide ((IntKind.i64.wrap (((m3900_0.length : Nat) : Int) - 1)) < ((m3900_0.length : Nat) : Int))) ((sto (m3900_0.set ((IntKind.i64.wrap (((m3900_0.length : Nat) : Int) - 1)).toNat) (b2.1, b2.2.1, b2.2.2.1, b2.2.2.2.1, b2.2.2.2.2.1, b2.2.2.2.2.2.1, b2.2.2.2.2.2.2.1, b2.2.2.2.2.2.2.2.1, b2.2.2.2.2.2.2.2.2.1, b2.2.2.2.2.2.2.2.2.2.1, b2.2.2.2.2.2.2.2.2.2.2.1))).bind fun b3 => NX (IntKind.i64.wrap (x11_0 + 1)) b3) none) none) (F6_l0_j1 k a0 NX RET x11_0 m3900_0)) none) none) (F6_l0_j1 k a0 NX RET x11_0 m3900_0))) none) none) ((F25 k m3900_0).bind fun b6 => RET b6)
def F6_l0 (k : Nat) (a0 : List (den seg)) : Nat → Int → List (den seg) → Option (List (den seg))
  | 0, _, _ => none
  | n + 1, x11_0, m3900_0 => F6_l0_T k a0 (fun x11_0 m3900_0 => F6_l0 k a0 n x11_0 m3900_0) some x11_0 m3900_0
theorem F6_l0_rd {β : Type} (k n : Nat) (a0 : List (den seg)) (x11_0 : Int) (m3900_0 : List (den seg)) (K : A × List (List Leaf) → Option β) :
    loopG (F6_E k) Try.f6 [1, 1, 0, 1, 0] 0 (kontAt (F6_E k) [1, 1, 0, 1, 0] (bodyOf Try.f6) 0 (endC (F6_E k) Try.f6 (F6_a a0) K)) (n + 1) (F6_s0 a0 x11_0 m3900_0) =
    F6_l0_T k a0 (fun x11_0 m3900_0 => loopG (F6_E k) Try.f6 [1, 1, 0, 1, 0] 0 (kontAt (F6_E k) [1, 1, 0, 1, 0] (bodyOf Try.f6) 0 (endC (F6_E k) Try.f6 (F6_a a0) K)) n (F6_s0 a0 x11_0 m3900_0)) (fun r => K (F6_r r)) x11_0 m3900_0 := by kernel_rfl
theorem F6_l0_lp {β : Type} (k : Nat) (a0 : List (den seg)) (K : A × List (List Leaf) → Option β) (n : Nat) : ∀ (x11_0 : Int) (m3900_0 : List (den seg)), loopG (F6_E k) Try.f6 [1, 1, 0, 1, 0] 0 (kontAt (F6_E k) [1, 1, 0, 1, 0] (bodyOf Try.f6) 0 (endC (F6_E k) Try.f6 (F6_a a0) K)) n (F6_s0 a0 x11_0 m3900_0) =
    (F6_l0 k a0 n x11_0 m3900_0).bind fun r => K (F6_r r) := by
  induction n with
  | zero => intros; rfl
  | succ n ih =>
    intros
    rw [F6_l0_rd, F6_l0]
    simp only [F6_l0_T, F6_l0_j1, bind_cond, Option.bind_assoc, Option.bind_some, Option.bind_none, Option.bind_fun_some, ih]
def F6_T {β : Type} (k : Nat) (a0 : List (den seg)) (LP0 : Int → List (den seg) → Option β) : Option β := LP0 0 []
def F6 (k : Nat) (a0 : List (den seg)) : Option (List (den seg)) := F6_T k a0 (fun x11_0 m3900_0 => F6_l0 k a0 k x11_0 m3900_0)
theorem F6_st {β : Type} (k : Nat) (a0 : List (den seg)) (K : A × List (List Leaf) → Option β) : evalF (F6_E k) Try.f6 (F6_a a0) K =
    F6_T k a0 (fun x11_0 m3900_0 => loopG (F6_E k) Try.f6 [1, 1, 0, 1, 0] 0 (kontAt (F6_E k) [1, 1, 0, 1, 0] (bodyOf Try.f6) 0 (endC (F6_E k) Try.f6 (F6_a a0) K)) k (F6_s0 a0 x11_0 m3900_0)) := by kernel_rfl
theorem F6_ev {β : Type} (k : Nat) (a0 : List (den seg)) (K : A × List (List Leaf) → Option β) : evalF (F6_E k) Try.f6 (F6_a a0) K = (F6 k a0).bind fun r => K (F6_r r) := by
  rw [F6_st, F6]
  simp only [F6_T, bind_cond, Option.bind_assoc, Option.bind_some, Option.bind_none, Option.bind_fun_some, F6_l0_lp]
theorem F6_tOk (k : Nat) : TabFn Try.prog (F6_t k) := .ent (F10_q k) F10_f (.ent (F11_q k) F11_f (.ent (F24_q k) F24_f (.ent (F25_q k) F25_f (.none))))
theorem F6_con (k : Nat) (a0 : List (den seg)) : Contract Try.prog 6 (F6_a a0) ⟨F6 k a0, F6_r⟩ := con_of (envOk (F6_tOk k) _ _ _ _) mixed Try.func6 rfl rfl (F6_ev k a0 some)
def F6_sh : List AK := [.one (.l (.sl .ro seg))]
def F6_p (k : Nat) : List Arg → Option CR := cle F6_sh fun x => ⟨F6 k x.1, F6_r⟩
theorem F6_q (k : Nat) : ∀ xs cr, F6_p k xs = some cr → Contract Try.prog 6 xs cr := cle_ok fun x => F6_con k _
theorem F6_f : FnOk Try.prog 6 := .of (by kernel_rfl)
/-! 69: loop.example/netstack/laws.eqRange -/
abbrev F69_E (k : Nat) : Env := env noTab noHint .own [] k
abbrev F69_a (a0_0 a0_1 a1_0 a1_1 : Int) : List Arg := [.agg [.l (.v (.int .i64 a0_0)), .l (.v (.int .i64 a0_1))], .agg [.l (.v (.int .i64 a1_0)), .l (.v (.int .i64 a1_1))]]
def F69_r (r : Bool) : A × List (List Leaf) := (.one (.v (.bool r)), [])
def F69 (k : Nat) (a0_0 a0_1 a1_0 a1_1 : Int) : Option (Bool) := cond (a0_0 != a1_0) (some false) (cond (a0_1 != a1_1) (some false) (some true))
theorem F69_st {β : Type} (k : Nat) (a0_0 a0_1 a1_0 a1_1 : Int) (K : A × List (List Leaf) → Option β) : evalF (F69_E k) Try.f69 (F69_a a0_0 a0_1 a1_0 a1_1) K =
    cond (a0_0 != a1_0) (K (.one (.v (.bool false)), [])) (cond (a0_1 != a1_1) (K (.one (.v (.bool false)), [])) (K (.one (.v (.bool true)), []))) := by kernel_rfl
theorem F69_ev {β : Type} (k : Nat) (a0_0 a0_1 a1_0 a1_1 : Int) (K : A × List (List Leaf) → Option β) : evalF (F69_E k) Try.f69 (F69_a a0_0 a0_1 a1_0 a1_1) K = (F69 k a0_0 a0_1 a1_0 a1_1).bind fun r => K (F69_r r) := by
  rw [F69_st, F69]
  simp only [F69_r, bind_cond, Option.bind_assoc, Option.bind_some, Option.bind_none, Option.bind_fun_some]
theorem F69_con (k : Nat) (a0_0 a0_1 a1_0 a1_1 : Int) : Contract Try.prog 69 (F69_a a0_0 a0_1 a1_0 a1_1) ⟨F69 k a0_0 a0_1 a1_0 a1_1, F69_r⟩ := con_of (envOk .none _ _ _ _) mixed Try.func69 rfl rfl (F69_ev k a0_0 a0_1 a1_0 a1_1 some)
def F69_sh : List AK := [.agg [.l (.int .i64), .l (.int .i64)], .agg [.l (.int .i64), .l (.int .i64)]]
def F69_p (k : Nat) : List Arg → Option CR := cle F69_sh fun x => ⟨F69 k x.1.1 x.1.2.1 x.2.1.1 x.2.1.2.1, F69_r⟩
theorem F69_q (k : Nat) : ∀ xs cr, F69_p k xs = some cr → Contract Try.prog 69 xs cr := cle_ok fun x => F69_con k _ _ _ _
theorem F69_f : FnOk Try.prog 69 := .of (by kernel_rfl)
/-! 64: loop.example/netstack/laws.eqRangeS -/
def F64_h : Nat → Hint
  | 0 => ⟨[(0, .plain), (1, .plain), (5, .plain)], []⟩
  | _ => ⟨[], []⟩
def F64_t (k : Nat) : Tab := entT 69 (F69_p k) <| noTab
abbrev F64_E (k : Nat) : Env := env (F64_t k) F64_h .own [] k
abbrev F64_a (a0 a1 : List (den rng)) : List Arg := [.one (.l (.s .ro rng a0)), .one (.l (.s .ro rng a1))]
def F64_r (r : Bool) : A × List (List Leaf) := (.one (.v (.bool r)), [])
def F64_s0 (a0 a1 : List (den rng)) (x5_0 : Int) : St := ⟨(.one (.s .ro rng a0)) :: (.one (.s .ro rng a1)) :: dz 3 ((.one (.v (.int .i64 x5_0))) :: dz 21 []), []⟩
def F64_l0_T {β : Type} (k : Nat) (a0 a1 : List (den rng)) (NX : Int → Option β) (RET : Bool → Option β) (x5_0 : Int) : Option β := cond (decide (x5_0 < ((a0.length : Nat) : Int))) (cond (decide (0 ≤ x5_0)) (cond (decide (x5_0 < ((a0.length : Nat) : Int))) (cond (decide (0 ≤ x5_0)) (cond (decide (x5_0 < ((a1.length : Nat) : Int))) ((F69 k ((atI a0 x5_0).1) ((atI a0 x5_0).2) ((atI a1 x5_0).1) ((atI a1 x5_0).2)).bind fun b1 => cond (!b1) (RET false) (NX (IntKind.i64.wrap (x5_0 + 1)))) none) none) none) none) (RET true)
def F64_l0 (k : Nat) (a0 a1 : List (den rng)) : Nat → Int → Option (Bool)
  | 0, _ => none
  | n + 1, x5_0 => F64_l0_T k a0 a1 (fun x5_0 => F64_l0 k a0 a1 n x5_0) some x5_0
theorem F64_l0_rd {β : Type} (k n : Nat) (a0 a1 : List (den rng)) (x5_0 : Int) (K : A × List (List Leaf) → Option β) :
    loopG (F64_E k) Try.f64 [1, 1, 0, 1, 0] 0 (kontAt (F64_E k) [1, 1, 0, 1, 0] (bodyOf Try.f64) 0 (endC (F64_E k) Try.f64 (F64_a a0 a1) K)) (n + 1) (F64_s0 a0 a1 x5_0) =
    F64_l0_T k a0 a1 (fun x5_0 => loopG (F64_E k) Try.f64 [1, 1, 0, 1, 0] 0 (kontAt (F64_E k) [1, 1, 0, 1, 0] (bodyOf Try.f64) 0 (endC (F64_E k) Try.f64 (F64_a a0 a1) K)) n (F64_s0 a0 a1 x5_0)) (fun r => K (F64_r r)) x5_0 := by kernel_rfl
theorem F64_l0_lp {β : Type} (k : Nat) (a0 a1 : List (den rng)) (K : A × List (List Leaf) → Option β) (n : Nat) : ∀ (x5_0 : Int), loopG (F64_E k) Try.f64 [1, 1, 0, 1, 0] 0 (kontAt (F64_E k) [1, 1, 0, 1, 0] (bodyOf Try.f64) 0 (endC (F64_E k) Try.f64 (F64_a a0 a1) K)) n (F64_s0 a0 a1 x5_0) =
    (F64_l0 k a0 a1 n x5_0).bind fun r => K (F64_r r) := by
  induction n with
  | zero => intros; rfl
  | succ n ih =>
    intros
    rw [F64_l0_rd, F64_l0]
    simp only [F64_l0_T, bind_cond, Option.bind_assoc, Option.bind_some, Option.bind_none, Option.bind_fun_some, ih]
def F64_T {β : Type} (k : Nat) (a0 a1 : List (den rng)) (LP0 : Int → Option β) (RET : Bool → Option β) : Option β := cond (((a0.length : Nat) : Int) != ((a1.length : Nat) : Int)) (RET false) (LP0 0)
def F64 (k : Nat) (a0 a1 : List (den rng)) : Option (Bool) := F64_T k a0 a1 (fun x5_0 => F64_l0 k a0 a1 k x5_0) some
theorem F64_st {β : Type} (k : Nat) (a0 a1 : List (den rng)) (K : A × List (List Leaf) → Option β) : evalF (F64_E k) Try.f64 (F64_a a0 a1) K =
    F64_T k a0 a1 (fun x5_0 => loopG (F64_E k) Try.f64 [1, 1, 0, 1, 0] 0 (kontAt (F64_E k) [1, 1, 0, 1, 0] (bodyOf Try.f64) 0 (endC (F64_E k) Try.f64 (F64_a a0 a1) K)) k (F64_s0 a0 a1 x5_0)) (fun r => K (F64_r r)) := by kernel_rfl
theorem F64_ev {β : Type} (k : Nat) (a0 a1 : List (den rng)) (K : A × List (List Leaf) → Option β) : evalF (F64_E k) Try.f64 (F64_a a0 a1) K = (F64 k a0 a1).bind fun r => K (F64_r r) := by
  rw [F64_st, F64]
  simp only [F64_T, bind_cond, Option.bind_assoc, Option.bind_some, Option.bind_none, Option.bind_fun_some, F64_l0_lp]
theorem F64_tOk (k : Nat) : TabFn Try.prog (F64_t k) := .ent (F69_q k) F69_f (.none)
theorem F64_con (k : Nat) (a0 a1 : List (den rng)) : Contract Try.prog 64 (F64_a a0 a1) ⟨F64 k a0 a1, F64_r⟩ := con_of (envOk (F64_tOk k) _ _ _ _) mixed Try.func64 rfl rfl (F64_ev k a0 a1 some)
def F64_sh : List AK := [.one (.l (.sl .ro rng)), .one (.l (.sl .ro rng))]
def F64_p (k : Nat) : List Arg → Option CR := cle F64_sh fun x => ⟨F64 k x.1 x.2.1, F64_r⟩
theorem F64_q (k : Nat) : ∀ xs cr, F64_p k xs = some cr → Contract Try.prog 64 xs cr := cle_ok fun x => F64_con k _ _
theorem F64_f : FnOk Try.prog 64 := .of (by kernel_rfl)
/-! 65: loop.example/netstack/laws.eqByteS -/
def F65_h : Nat → Hint
  | 0 => ⟨[(0, .plain), (1, .plain), (5, .plain)], []⟩
  | _ => ⟨[], []⟩
abbrev F65_E (k : Nat) : Env := env noTab F65_h .own [] k
abbrev F65_a (a0 a1 : List (den (.int .u8))) : List Arg := [.one (.l (.s .ro (.int .u8) a0)), .one (.l (.s .ro (.int .u8) a1))]
def F65_r (r : Bool) : A × List (List Leaf) := (.one (.v (.bool r)), [])
def F65_s0 (a0 a1 : List (den (.int .u8))) (x5_0 : Int) : St := ⟨(.one (.s .ro (.int .u8) a0)) :: (.one (.s .ro (.int .u8) a1)) :: dz 3 ((.one (.v (.int .i64 x5_0))) :: dz 20 []), []⟩
def F65_l0_T {β : Type} (k : Nat) (a0 a1 : List (den (.int .u8))) (NX : Int → Option β) (RET : Bool → Option β) (x5_0 : Int) : Option β := cond (decide (x5_0 < ((a0.length : Nat) : Int))) (cond (decide (0 ≤ x5_0)) (cond (decide (x5_0 < ((a0.length : Nat) : Int))) (cond (decide (0 ≤ x5_0)) (cond (decide (x5_0 < ((a1.length : Nat) : Int))) (cond ((atI a0 x5_0) != (atI a1 x5_0)) (RET false) (NX (IntKind.i64.wrap (x5_0 + 1)))) none) none) none) none) (RET true)
def F65_l0 (k : Nat) (a0 a1 : List (den (.int .u8))) : Nat → Int → Option (Bool)
  | 0, _ => none
  | n + 1, x5_0 => F65_l0_T k a0 a1 (fun x5_0 => F65_l0 k a0 a1 n x5_0) some x5_0
theorem F65_l0_rd {β : Type} (k n : Nat) (a0 a1 : List (den (.int .u8))) (x5_0 : Int) (K : A × List (List Leaf) → Option β) :
    loopG (F65_E k) Try.f65 [1, 1, 0, 1, 0] 0 (kontAt (F65_E k) [1, 1, 0, 1, 0] (bodyOf Try.f65) 0 (endC (F65_E k) Try.f65 (F65_a a0 a1) K)) (n + 1) (F65_s0 a0 a1 x5_0) =
    F65_l0_T k a0 a1 (fun x5_0 => loopG (F65_E k) Try.f65 [1, 1, 0, 1, 0] 0 (kontAt (F65_E k) [1, 1, 0, 1, 0] (bodyOf Try.f65) 0 (endC (F65_E k) Try.f65 (F65_a a0 a1) K)) n (F65_s0 a0 a1 x5_0)) (fun r => K (F65_r r)) x5_0 := by kernel_rfl
theorem F65_l0_lp {β : Type} (k : Nat) (a0 a1 : List (den (.int .u8))) (K : A × List (List Leaf) → Option β) (n : Nat) : ∀ (x5_0 : Int), loopG (F65_E k) Try.f65 [1, 1, 0, 1, 0] 0 (kontAt (F65_E k) [1, 1, 0, 1, 0] (bodyOf Try.f65) 0 (endC (F65_E k) Try.f65 (F65_a a0 a1) K)) n (F65_s0 a0 a1 x5_0) =
    (F65_l0 k a0 a1 n x5_0).bind fun r => K (F65_r r) := by
  induction n with
  | zero => intros; rfl
  | succ n ih =>
    intros
    rw [F65_l0_rd, F65_l0]
    simp only [F65_l0_T, bind_cond, Option.bind_assoc, Option.bind_some, Option.bind_none, Option.bind_fun_some, ih]
def F65_T {β : Type} (k : Nat) (a0 a1 : List (den (.int .u8))) (LP0 : Int → Option β) (RET : Bool → Option β) : Option β := cond (((a0.length : Nat) : Int) != ((a1.length : Nat) : Int)) (RET false) (LP0 0)
def F65 (k : Nat) (a0 a1 : List (den (.int .u8))) : Option (Bool) := F65_T k a0 a1 (fun x5_0 => F65_l0 k a0 a1 k x5_0) some
theorem F65_st {β : Type} (k : Nat) (a0 a1 : List (den (.int .u8))) (K : A × List (List Leaf) → Option β) : evalF (F65_E k) Try.f65 (F65_a a0 a1) K =
    F65_T k a0 a1 (fun x5_0 => loopG (F65_E k) Try.f65 [1, 1, 0, 1, 0] 0 (kontAt (F65_E k) [1, 1, 0, 1, 0] (bodyOf Try.f65) 0 (endC (F65_E k) Try.f65 (F65_a a0 a1) K)) k (F65_s0 a0 a1 x5_0)) (fun r => K (F65_r r)) := by kernel_rfl
theorem F65_ev {β : Type} (k : Nat) (a0 a1 : List (den (.int .u8))) (K : A × List (List Leaf) → Option β) : evalF (F65_E k) Try.f65 (F65_a a0 a1) K = (F65 k a0 a1).bind fun r => K (F65_r r) := by
  rw [F65_st, F65]
  simp only [F65_T, bind_cond, Option.bind_assoc, Option.bind_some, Option.bind_none, Option.bind_fun_some, F65_l0_lp]
theorem F65_con (k : Nat) (a0 a1 : List (den (.int .u8))) : Contract Try.prog 65 (F65_a a0 a1) ⟨F65 k a0 a1, F65_r⟩ := con_of (envOk .none _ _ _ _) mixed Try.func65 rfl rfl (F65_ev k a0 a1 some)
def F65_sh : List AK := [.one (.l (.sl .ro (.int .u8))), .one (.l (.sl .ro (.int .u8)))]
def F65_p (k : Nat) : List Arg → Option CR := cle F65_sh fun x => ⟨F65 k x.1 x.2.1, F65_r⟩
theorem F65_q (k : Nat) : ∀ xs cr, F65_p k xs = some cr → Contract Try.prog 65 xs cr := cle_ok fun x => F65_con k _ _
theorem F65_f : FnOk Try.prog 65 := .of (by kernel_rfl)
/-! 42: loop.example/netstack/laws.eqSegment -/
def F42_t (k : Nat) : Tab := entT 64 (F64_p k) <| entT 65 (F65_p k) <| noTab
abbrev F42_E (k : Nat) : Env := env (F42_t k) noHint .own [] k
abbrev F42_a (a0_0 a0_1 a0_2 a0_3 a0_4 : Int) (a0_5 a0_6 a0_7 a0_8 : Bool) (a0_9 : List (den rng)) (a0_10 : List (den (.int .u8))) (a1_0 a1_1 a1_2 a1_3 a1_4 : Int) (a1_5 a1_6 a1_7 a1_8 : Bool) (a1_9 : List (den rng)) (a1_10 : List (den (.int .u8))) : List Arg := [.agg [.l (.v (.int .i64 a0_0)), .l (.v (.int .i64 a0_1)), .l (.v (.int .i64 a0_2)), .l (.v (.int .i64 a0_3)), .l (.v (.int .i64 a0_4)), .l (.v (.bool a0_5)), .l (.v (.bool a0_6)), .l (.v (.bool a0_7)), .l (.v (.bool a0_8)), .l (.s .ro rng a0_9), .l (.s .ro (.int .u8) a0_10)], .agg [.l (.v (.int .i64 a1_0)), .l (.v (.int .i64 a1_1)), .l (.v (.int .i64 a1_2)), .l (.v (.int .i64 a1_3)), .l (.v (.int .i64 a1_4)), .l (.v (.bool a1_5)), .l (.v (.bool a1_6)), .l (.v (.bool a1_7)), .l (.v (.bool a1_8)), .l (.s .ro rng a1_9), .l (.s .ro (.int .u8) a1_10)]]
def F42_r (r : Bool) : A × List (List Leaf) := (.one (.v (.bool r)), [])
def F42_T {β : Type} (k : Nat) (a0_0 a0_1 a0_2 a0_3 a0_4 : Int) (a0_5 a0_6 a0_7 a0_8 : Bool) (a0_9 : List (den rng)) (a0_10 : List (den (.int .u8))) (a1_0 a1_1 a1_2 a1_3 a1_4 : Int) (a1_5 a1_6 a1_7 a1_8 : Bool) (a1_9 : List (den rng)) (a1_10 : List (den (.int .u8))) (RET : Bool → Option β) : Option β := cond (a0_0 != a1_0) (RET false) (cond (a0_1 != a1_1) (RET false) (cond (a0_2 != a1_2) (RET false) (cond (a0_3 != a1_3) (RET false) (cond (a0_4 != a1_4) (RET false) (cond (!(a0_5 == a1_5)) (RET false) (cond (!(a0_6 == a1_6)) (RET false) (cond (!(a0_7 == a1_7)) (RET false) (cond (!(a0_8 == a1_8)) (RET false) ((F64 k a0_9 a1_9).bind fun b1 => cond (!b1) (RET false) ((F65 k a0_10 a1_10).bind fun b2 => cond (!b2) (RET false) (RET true)))))))))))
def F42 (k : Nat) (a0_0 a0_1 a0_2 a0_3 a0_4 : Int) (a0_5 a0_6 a0_7 a0_8 : Bool) (a0_9 : List (den rng)) (a0_10 : List (den (.int .u8))) (a1_0 a1_1 a1_2 a1_3 a1_4 : Int) (a1_5 a1_6 a1_7 a1_8 : Bool) (a1_9 : List (den rng)) (a1_10 : List (den (.int .u8))) : Option (Bool) := F42_T k a0_0 a0_1 a0_2 a0_3 a0_4 a0_5 a0_6 a0_7 a0_8 a0_9 a0_10 a1_0 a1_1 a1_2 a1_3 a1_4 a1_5 a1_6 a1_7 a1_8 a1_9 a1_10 some
theorem F42_st {β : Type} (k : Nat) (a0_0 a0_1 a0_2 a0_3 a0_4 : Int) (a0_5 a0_6 a0_7 a0_8 : Bool) (a0_9 : List (den rng)) (a0_10 : List (den (.int .u8))) (a1_0 a1_1 a1_2 a1_3 a1_4 : Int) (a1_5 a1_6 a1_7 a1_8 : Bool) (a1_9 : List (den rng)) (a1_10 : List (den (.int .u8))) (K : A × List (List Leaf) → Option β) : evalF (F42_E k) Try.f42 (F42_a a0_0 a0_1 a0_2 a0_3 a0_4 a0_5 a0_6 a0_7 a0_8 a0_9 a0_10 a1_0 a1_1 a1_2 a1_3 a1_4 a1_5 a1_6 a1_7 a1_8 a1_9 a1_10) K =
    F42_T k a0_0 a0_1 a0_2 a0_3 a0_4 a0_5 a0_6 a0_7 a0_8 a0_9 a0_10 a1_0 a1_1 a1_2 a1_3 a1_4 a1_5 a1_6 a1_7 a1_8 a1_9 a1_10 (fun r => K (F42_r r)) := by kernel_rfl
theorem F42_ev {β : Type} (k : Nat) (a0_0 a0_1 a0_2 a0_3 a0_4 : Int) (a0_5 a0_6 a0_7 a0_8 : Bool) (a0_9 : List (den rng)) (a0_10 : List (den (.int .u8))) (a1_0 a1_1 a1_2 a1_3 a1_4 : Int) (a1_5 a1_6 a1_7 a1_8 : Bool) (a1_9 : List (den rng)) (a1_10 : List (den (.int .u8))) (K : A × List (List Leaf) → Option β) : evalF (F42_E k) Try.f42 (F42_a a0_0 a0_1 a0_2 a0_3 a0_4 a0_5 a0_6 a0_7 a0_8 a0_9 a0_10 a1_0 a1_1 a1_2 a1_3 a1_4 a1_5 a1_6 a1_7 a1_8 a1_9 a1_10) K = (F42 k a0_0 a0_1 a0_2 a0_3 a0_4 a0_5 a0_6 a0_7 a0_8 a0_9 a0_10 a1_0 a1_1 a1_2 a1_3 a1_4 a1_5 a1_6 a1_7 a1_8 a1_9 a1_10).bind fun r => K (F42_r r) := by
  rw [F42_st, F42]
  simp only [F42_T, bind_cond, Option.bind_assoc, Option.bind_some, Option.bind_none, Option.bind_fun_some]
theorem F42_tOk (k : Nat) : TabFn Try.prog (F42_t k) := .ent (F64_q k) F64_f (.ent (F65_q k) F65_f (.none))
theorem F42_con (k : Nat) (a0_0 a0_1 a0_2 a0_3 a0_4 : Int) (a0_5 a0_6 a0_7 a0_8 : Bool) (a0_9 : List (den rng)) (a0_10 : List (den (.int .u8))) (a1_0 a1_1 a1_2 a1_3 a1_4 : Int) (a1_5 a1_6 a1_7 a1_8 : Bool) (a1_9 : List (den rng)) (a1_10 : List (den (.int .u8))) : Contract Try.prog 42 (F42_a a0_0 a0_1 a0_2 a0_3 a0_4 a0_5 a0_6 a0_7 a0_8 a0_9 a0_10 a1_0 a1_1 a1_2 a1_3 a1_4 a1_5 a1_6 a1_7 a1_8 a1_9 a1_10) ⟨F42 k a0_0 a0_1 a0_2 a0_3 a0_4 a0_5 a0_6 a0_7 a0_8 a0_9 a0_10 a1_0 a1_1 a1_2 a1_3 a1_4 a1_5 a1_6 a1_7 a1_8 a1_9 a1_10, F42_r⟩ := con_of (envOk (F42_tOk k) _ _ _ _) mixed Try.func42 rfl rfl (F42_ev k a0_0 a0_1 a0_2 a0_3 a0_4 a0_5 a0_6 a0_7 a0_8 a0_9 a0_10 a1_0 a1_1 a1_2 a1_3 a1_4 a1_5 a1_6 a1_7 a1_8 a1_9 a1_10 some)
def F42_sh : List AK := [.agg [.l (.int .i64), .l (.int .i64), .l (.int .i64), .l (.int .i64), .l (.int .i64), .l (.bool), .l (.bool), .l (.bool), .l (.bool), .l (.sl .ro rng), .l (.sl .ro (.int .u8))], .agg [.l (.int .i64), .l (.int .i64), .l (.int .i64), .l (.int .i64), .l (.int .i64), .l (.bool), .l (.bool), .l (.bool), .l (.bool), .l (.sl .ro rng), .l (.sl .ro (.int .u8))]]
def F42_p (k : Nat) : List Arg → Option CR := cle F42_sh fun x => ⟨F42 k x.1.1 x.1.2.1 x.1.2.2.1 x.1.2.2.2.1 x.1.2.2.2.2.1 x.1.2.2.2.2.2.1 x.1.2.2.2.2.2.2.1 x.1.2.2.2.2.2.2.2.1 x.1.2.2.2.2.2.2.2.2.1 x.1.2.2.2.2.2.2.2.2.2.1 x.1.2.2.2.2.2.2.2.2.2.2.1 x.2.1.1 x.2.1.2.1 x.2.1.2.2.1 x.2.1.2.2.2.1 x.2.1.2.2.2.2.1 x.2.1.2.2.2.2.2.1 x.2.1.2.2.2.2.2.2.1 x.2.1.2.2.2.2.2.2.2.1 x.2.1.2.2.2.2.2.2.2.2.1 x.2.1.2.2.2.2.2.2.2.2.2.1 x.2.1.2.2.2.2.2.2.2.2.2.2.1, F42_r⟩
theorem F42_q (k : Nat) : ∀ xs cr, F42_p k xs = some cr → Contract Try.prog 42 xs cr := cle_ok fun x => F42_con k _ _ _ _ _ _ _ _ _ _ _ _ _ _ _ _ _ _ _ _ _ _
theorem F42_f : FnOk Try.prog 42 := .of (by kernel_rfl)
/-! 16: loop.example/netstack/laws.eqSegmentS -/
def F16_h : Nat → Hint
  | 0 => ⟨[(0, .plain), (1, .plain), (5, .plain)], []⟩
  | _ => ⟨[], []⟩
def F16_t (k : Nat) : Tab := entT 42 (F42_p k) <| noTab
abbrev F16_E (k : Nat) : Env := env (F16_t k) F16_h .own [] k
abbrev F16_a (a0 a1 : List (den seg)) : List Arg := [.one (.l (.s .ro seg a0)), .one (.l (.s .ro seg a1))]
def F16_r (r : Bool) : A × List (List Leaf) := (.one (.v (.bool r)), [])
def F16_s0 (a0 a1 : List (den seg)) (x5_0 : Int) : St := ⟨(.one (.s .ro seg a0)) :: (.one (.s .ro seg a1)) :: dz 3 ((.one (.v (.int .i64 x5_0))) :: dz 21 []), []⟩
def F16_l0_T {β : Type} (k : Nat) (a0 a1 : List (den seg)) (NX : Int → Option β) (RET : Bool → Option β) (x5_0 : Int) : Option β := cond (decide (x5_0 < ((a0.length : Nat) : Int))) (cond (decide (0 ≤ x5_0)) (cond (decide (x5_0 < ((a0.length : Nat) : Int))) (cond (decide (0 ≤ x5_0)) (cond (decide (x5_0 < ((a1.length : Nat) : Int))) ((F42 k ((atI a0 x5_0).1) (((atI a0 x5_0).2).1) ((((atI a0 x5_0).2).2).1) (((((atI a0 x5_0).2).2).2).1) ((((((atI a0 x5_0).2).2).2).2).1) (((((((atI a0 x5_0).2).2).2).2).2).1) ((((((((atI a0 x5_0).2).2).2).2).2).2).1) (((((((((atI a0 x5_0).2).2).2).2).2).2).2).1) ((((((((((atI a0 x5_0).2).2).2).2).2).2).2).2).1) (((((((((((atI a0 x5_0).2).2).2).2).2).2).2).2).2).1) (((((((((((atI a0 x5_0).2).2).2).2).2).2).2).2).2).2) ((atI a1 x5_0).1) (((atI a1 x5_0).2).1) ((((atI a1 x5_0).2).2).1) (((((atI a1 x5_0).2).2).2).1) ((((((atI a1 x5_0).2).2).2).2).1) (((((((atI a1 x5_0).2).2).2).2).2).1) ((((((((atI a1 x5_0).2).2).2).2).2).2).1) (((((((((atI a1 x5_0).2).2).2).2).2).2).2).1) ((((((((((atI a1 x5_0).2).2).2).2).2).2).2).2).1) (((((((((((atI a1 x5_0).2).2).2).2).2).2).2).2).2).1) (((((((((((atI a1 x5_0).2).2).2).2).2).2).2).2).2).2)).bind fun b1 => cond (!b1) (RET false) (NX (IntKind.i64.wrap (x5_0 + 1)))) none) none) none) none) (RET true)
def F16_l0 (k : Nat) (a0 a1 : List (den seg)) : Nat → Int → Option (Bool)
  | 0, _ => none
  | n + 1, x5_0 => F16_l0_T k a0 a1 (fun x5_0 => F16_l0 k a0 a1 n x5_0) some x5_0
theorem F16_l0_rd {β : Type} (k n : Nat) (a0 a1 : List (den seg)) (x5_0 : Int) (K : A × List (List Leaf) → Option β) :
    loopG (F16_E k) Try.f16 [1, 1, 0, 1, 0] 0 (kontAt (F16_E k) [1, 1, 0, 1, 0] (bodyOf Try.f16) 0 (endC (F16_E k) Try.f16 (F16_a a0 a1) K)) (n + 1) (F16_s0 a0 a1 x5_0) =
    F16_l0_T k a0 a1 (fun x5_0 => loopG (F16_E k) Try.f16 [1, 1, 0, 1, 0] 0 (kontAt (F16_E k) [1, 1, 0, 1, 0] (bodyOf Try.f16) 0 (endC (F16_E k) Try.f16 (F16_a a0 a1) K)) n (F16_s0 a0 a1 x5_0)) (fun r => K (F16_r r)) x5_0 := by kernel_rfl
theorem F16_l0_lp {β : Type} (k : Nat) (a0 a1 : List (den seg)) (K : A × List (List Leaf) → Option β) (n : Nat) : ∀ (x5_0 : Int), loopG (F16_E k) Try.f16 [1, 1, 0, 1, 0] 0 (kontAt (F16_E k) [1, 1, 0, 1, 0] (bodyOf Try.f16) 0 (endC (F16_E k) Try.f16 (F16_a a0 a1) K)) n (F16_s0 a0 a1 x5_0) =
    (F16_l0 k a0 a1 n x5_0).bind fun r => K (F16_r r) := by
  induction n with
  | zero => intros; rfl
  | succ n ih =>
    intros
    rw [F16_l0_rd, F16_l0]
    simp only [F16_l0_T, bind_cond, Option.bind_assoc, Option.bind_some, Option.bind_none, Option.bind_fun_some, ih]
def F16_T {β : Type} (k : Nat) (a0 a1 : List (den seg)) (LP0 : Int → Option β) (RET : Bool → Option β) : Option β := cond (((a0.length : Nat) : Int) != ((a1.length : Nat) : Int)) (RET false) (LP0 0)
def F16 (k : Nat) (a0 a1 : List (den seg)) : Option (Bool) := F16_T k a0 a1 (fun x5_0 => F16_l0 k a0 a1 k x5_0) some
theorem F16_st {β : Type} (k : Nat) (a0 a1 : List (den seg)) (K : A × List (List Leaf) → Option β) : evalF (F16_E k) Try.f16 (F16_a a0 a1) K =
    F16_T k a0 a1 (fun x5_0 => loopG (F16_E k) Try.f16 [1, 1, 0, 1, 0] 0 (kontAt (F16_E k) [1, 1, 0, 1, 0] (bodyOf Try.f16) 0 (endC (F16_E k) Try.f16 (F16_a a0 a1) K)) k (F16_s0 a0 a1 x5_0)) (fun r => K (F16_r r)) := by kernel_rfl
theorem F16_ev {β : Type} (k : Nat) (a0 a1 : List (den seg)) (K : A × List (List Leaf) → Option β) : evalF (F16_E k) Try.f16 (F16_a a0 a1) K = (F16 k a0 a1).bind fun r => K (F16_r r) := by
  rw [F16_st, F16]
  simp only [F16_T, bind_cond, Option.bind_assoc, Option.bind_some, Option.bind_none, Option.bind_fun_some, F16_l0_lp]
theorem F16_tOk (k : Nat) : TabFn Try.prog (F16_t k) := .ent (F42_q k) F42_f (.none)
theorem F16_con (k : Nat) (a0 a1 : List (den seg)) : Contract Try.prog 16 (F16_a a0 a1) ⟨F16 k a0 a1, F16_r⟩ := con_of (envOk (F16_tOk k) _ _ _ _) mixed Try.func16 rfl rfl (F16_ev k a0 a1 some)
def F16_sh : List AK := [.one (.l (.sl .ro seg)), .one (.l (.sl .ro seg))]
def F16_p (k : Nat) : List Arg → Option CR := cle F16_sh fun x => ⟨F16 k x.1 x.2.1, F16_r⟩
theorem F16_q (k : Nat) : ∀ xs cr, F16_p k xs = some cr → Contract Try.prog 16 xs cr := cle_ok fun x => F16_con k _ _
theorem F16_f : FnOk Try.prog 16 := .of (by kernel_rfl)
/-! 43: loop.example/netstack/laws.markRangeS -/
def F43_h : Nat → Hint
  | 0 => ⟨[(0, .plain), (1, .plain), (5, .plain)], [(0, .plain)]⟩
  | _ => ⟨[], []⟩
abbrev F43_E (k : Nat) : Env := env noTab F43_h .own [(true, 0)] k
abbrev F43_a (a0 : List (den rng)) (a1 : Int) : List Arg := [.one (.b (.s .own rng a0)), .one (.l (.v (.int .i64 a1)))]
def F43_r (r : Int × List (den rng)) : A × List (List Leaf) := (.one (.v (.int .i64 r.1)), [[.s .own rng r.2]])
def F43_s0 (a0 : List (den rng)) (a1 : Int) (x1_0 x5_0 : Int) (m0_0 : List (den rng)) : St := ⟨(.one (.a (.cell 0) 0 0 none)) :: (.one (.v (.int .i64 x1_0))) :: dz 3 ((.one (.v (.int .i64 x5_0))) :: dz 21 []), [(0, ⟨.s .own rng m0_0, 0, 0⟩)]⟩
def F43_l0_T {β : Type} (k : Nat) (a0 : List (den rng)) (a1 : Int) (NX : Int → Int → List (den rng) → Option β) (RET : (Int × List (den rng)) → Option β) (x1_0 x5_0 : Int) (m0_0 : List (den rng)) : Option β := cond (decide (x5_0 < ((m0_0.length : Nat) : Int))) (cond (decide (0 ≤ x5_0)) (cond (decide (x5_0 < ((m0_0.length : Nat) : Int))) (cond (decide (0 ≤ x5_0)) (cond (decide (x5_0 < (((m0_0.set x5_0.toNat (x1_0, (atI m0_0 x5_0).2)).length : Nat) : Int))) (NX (IntKind.i64.wrap ((IntKind.i64.wrap (x1_0 + 1)) + 1)) (IntKind.i64.wrap (x5_0 + 1)) ((m0_0.set x5_0.toNat (x1_0, (atI m0_0 x5_0).2)).set x5_0.toNat ((atI (m0_0.set x5_0.toNat (x1_0, (atI m0_0 x5_0).2)) x5_0).1, IntKind.i64.wrap (x1_0 + 1)))) none) none) none) none) (RET (x1_0, m0_0))
def F43_l0 (k : Nat) (a0 : List (den rng)) (a1 : Int) : Nat → Int → Int → List (den rng) → Option (Int × List (den rng))
  | 0, _, _, _ => none
  | n + 1, x1_0, x5_0, m0_0 => F43_l0_T k a0 a1 (fun x1_0 x5_0 m0_0 => F43_l0 k a0 a1 n x1_0 x5_0 m0_0) some x1_0 x5_0 m0_0
theorem F43_l0_rd {β : Type} (k n : Nat) (a0 : List (den rng)) (a1 : Int) (x1_0 x5_0 : Int) (m0_0 : List (den rng)) (K : A × List (List Leaf) → Option β) :
    loopG (F43_E k) Try.f43 [1, 0, 1, 0] 0 (kontAt (F43_E k) [1, 0, 1, 0] (bodyOf Try.f43) 0 (endC (F43_E k) Try.f43 (F43_a a0 a1) K)) (n + 1) (F43_s0 a0 a1 x1_0 x5_0 m0_0) =
    F43_l0_T k a0 a1 (fun x1_0 x5_0 m0_0 => loopG (F43_E k) Try.f43 [1, 0, 1, 0] 0 (kontAt (F43_E k) [1, 0, 1, 0] (bodyOf Try.f43) 0 (endC (F43_E k) Try.f43 (F43_a a0 a1) K)) n (F43_s0 a0 a1 x1_0 x5_0 m0_0)) (fun r => K (F43_r r)) x1_0 x5_0 m0_0 := by kernel_rfl
theorem F43_l0_lp {β : Type} (k : Nat) (a0 : List (den rng)) (a1 : Int) (K : A × List (List Leaf) → Option β) (n : Nat) : ∀ (x1_0 x5_0 : Int) (m0_0 : List (den rng)), loopG (F43_E k) Try.f43 [1, 0, 1, 0] 0 (kontAt (F43_E k) [1, 0, 1, 0] (bodyOf Try.f43) 0 (endC (F43_E k) Try.f43 (F43_a a0 a1) K)) n (F43_s0 a0 a1 x1_0 x5_0 m0_0) =
    (F43_l0 k a0 a1 n x1_0 x5_0 m0_0).bind fun r => K (F43_r r) := by
  induction n with
  | zero => intros; rfl
  | succ n ih =>
    intros
    rw [F43_l0_rd, F43_l0]
    simp only [F43_l0_T, bind_cond, Option.bind_assoc, Option.bind_some, Option.bind_none, Option.bind_fun_some, ih]
def F43_T {β : Type} (k : Nat) (a0 : List (den rng)) (a1 : Int) (LP0 : Int → Int → List (den rng) → Option β) : Option β := LP0 a1 0 a0
def F43 (k : Nat) (a0 : List (den rng)) (a1 : Int) : Option (Int × List (den rng)) := F43_T k a0 a1 (fun x1_0 x5_0 m0_0 => F43_l0 k a0 a1 k x1_0 x5_0 m0_0)
theorem F43_st {β : Type} (k : Nat) (a0 : List (den rng)) (a1 : Int) (K : A × List (List Leaf) → Option β) : evalF (F43_E k) Try.f43 (F43_a a0 a1) K =
    F43_T k a0 a1 (fun x1_0 x5_0 m0_0 => loopG (F43_E k) Try.f43 [1, 0, 1, 0] 0 (kontAt (F43_E k) [1, 0, 1, 0] (bodyOf Try.f43) 0 (endC (F43_E k) Try.f43 (F43_a a0 a1) K)) k (F43_s0 a0 a1 x1_0 x5_0 m0_0)) := by kernel_rfl
theorem F43_ev {β : Type} (k : Nat) (a0 : List (den rng)) (a1 : Int) (K : A × List (List Leaf) → Option β) : evalF (F43_E k) Try.f43 (F43_a a0 a1) K = (F43 k a0 a1).bind fun r => K (F43_r r) := by
  rw [F43_st, F43]
  simp only [F43_T, bind_cond, Option.bind_assoc, Option.bind_some, Option.bind_none, Option.bind_fun_some, F43_l0_lp]
theorem F43_con (k : Nat) (a0 : List (den rng)) (a1 : Int) : Contract Try.prog 43 (F43_a a0 a1) ⟨F43 k a0 a1, F43_r⟩ := con_of (envOk .none _ _ _ _) mixed Try.func43 rfl rfl (F43_ev k a0 a1 some)
def F43_sh : List AK := [.one (.b (.sl .own rng)), .one (.l (.int .i64))]
def F43_p (k : Nat) : List Arg → Option CR := cle F43_sh fun x => ⟨F43 k x.1 x.2.1, F43_r⟩
theorem F43_q (k : Nat) : ∀ xs cr, F43_p k xs = some cr → Contract Try.prog 43 xs cr := cle_ok fun x => F43_con k _ _
theorem F43_f : FnOk Try.prog 43 := .of (by kernel_rfl)
/-! 44: loop.example/netstack/laws.markByteS -/
def F44_h : Nat → Hint
  | 0 => ⟨[(0, .plain), (1, .plain), (5, .plain)], [(0, .plain)]⟩
  | _ => ⟨[], []⟩
abbrev F44_E (k : Nat) : Env := env noTab F44_h .own [(true, 0)] k
abbrev F44_a (a0 : List (den (.int .u8))) (a1 : Int) : List Arg := [.one (.b (.s .own (.int .u8) a0)), .one (.l (.v (.int .i64 a1)))]
def F44_r (r : Int × List (den (.int .u8))) : A × List (List Leaf) := (.one (.v (.int .i64 r.1)), [[.s .own (.int .u8) r.2]])
def F44_s0 (a0 : List (den (.int .u8))) (a1 : Int) (x1_0 x5_0 : Int) (m0_0 : List (den (.int .u8))) : St := ⟨(.one (.a (.cell 0) 0 0 none)) :: (.one (.v (.int .i64 x1_0))) :: dz 3 ((.one (.v (.int .i64 x5_0))) :: dz 14 []), [(0, ⟨.s .own (.int .u8) m0_0, 0, 0⟩)]⟩
def F44_l0_T {β : Type} (k : Nat) (a0 : List (den (.int .u8))) (a1 : Int) (NX : Int → Int → List (den (.int .u8)) → Option β) (RET : (Int × List (den (.int .u8))) → Option β) (x1_0 x5_0 : Int) (m0_0 : List (den (.int .u8))) : Option β := cond (decide (x5_0 < ((m0_0.length : Nat) : Int))) (cond (decide (0 ≤ x5_0)) (cond (decide (x5_0 < ((m0_0.length : Nat) : Int))) (NX (IntKind.i64.wrap (x1_0 + 1)) (IntKind.i64.wrap (x5_0 + 1)) (m0_0.set x5_0.toNat (IntKind.u8.wrap (x1_0)))) none) none) (RET (x1_0, m0_0))
def F44_l0 (k : Nat) (a0 : List (den (.int .u8))) (a1 : Int) : Nat → Int → Int → List (den (.int .u8)) → Option (Int × List (den (.int .u8)))
  | 0, _, _, _ => none
  | n + 1, x1_0, x5_0, m0_0 => F44_l0_T k a0 a1 (fun x1_0 x5_0 m0_0 => F44_l0 k a0 a1 n x1_0 x5_0 m0_0) some x1_0 x5_0 m0_0
theorem F44_l0_rd {β : Type} (k n : Nat) (a0 : List (den (.int .u8))) (a1 : Int) (x1_0 x5_0 : Int) (m0_0 : List (den (.int .u8))) (K : A × List (List Leaf) → Option β) :
    loopG (F44_E k) Try.f44 [1, 0, 1, 0] 0 (kontAt (F44_E k) [1, 0, 1, 0] (bodyOf Try.f44) 0 (endC (F44_E k) Try.f44 (F44_a a0 a1) K)) (n + 1) (F44_s0 a0 a1 x1_0 x5_0 m0_0) =
    F44_l0_T k a0 a1 (fun x1_0 x5_0 m0_0 => loopG (F44_E k) Try.f44 [1, 0, 1, 0] 0 (kontAt (F44_E k) [1, 0, 1, 0] (bodyOf Try.f44) 0 (endC (F44_E k) Try.f44 (F44_a a0 a1) K)) n (F44_s0 a0 a1 x1_0 x5_0 m0_0)) (fun r => K (F44_r r)) x1_0 x5_0 m0_0 := by kernel_rfl
theorem F44_l0_lp {β : Type} (k : Nat) (a0 : List (den (.int .u8))) (a1 : Int) (K : A × List (List Leaf) → Option β) (n : Nat) : ∀ (x1_0 x5_0 : Int) (m0_0 : List (den (.int .u8))), loopG (F44_E k) Try.f44 [1, 0, 1, 0] 0 (kontAt (F44_E k) [1, 0, 1, 0] (bodyOf Try.f44) 0 (endC (F44_E k) Try.f44 (F44_a a0 a1) K)) n (F44_s0 a0 a1 x1_0 x5_0 m0_0) =
    (F44_l0 k a0 a1 n x1_0 x5_0 m0_0).bind fun r => K (F44_r r) := by
  induction n with
  | zero => intros; rfl
  | succ n ih =>
    intros
    rw [F44_l0_rd, F44_l0]
    simp only [F44_l0_T, bind_cond, Option.bind_assoc, Option.bind_some, Option.bind_none, Option.bind_fun_some, ih]
def F44_T {β : Type} (k : Nat) (a0 : List (den (.int .u8))) (a1 : Int) (LP0 : Int → Int → List (den (.int .u8)) → Option β) : Option β := LP0 a1 0 a0
def F44 (k : Nat) (a0 : List (den (.int .u8))) (a1 : Int) : Option (Int × List (den (.int .u8))) := F44_T k a0 a1 (fun x1_0 x5_0 m0_0 => F44_l0 k a0 a1 k x1_0 x5_0 m0_0)
theorem F44_st {β : Type} (k : Nat) (a0 : List (den (.int .u8))) (a1 : Int) (K : A × List (List Leaf) → Option β) : evalF (F44_E k) Try.f44 (F44_a a0 a1) K =
    F44_T k a0 a1 (fun x1_0 x5_0 m0_0 => loopG (F44_E k) Try.f44 [1, 0, 1, 0] 0 (kontAt (F44_E k) [1, 0, 1, 0] (bodyOf Try.f44) 0 (endC (F44_E k) Try.f44 (F44_a a0 a1) K)) k (F44_s0 a0 a1 x1_0 x5_0 m0_0)) := by kernel_rfl
theorem F44_ev {β : Type} (k : Nat) (a0 : List (den (.int .u8))) (a1 : Int) (K : A × List (List Leaf) → Option β) : evalF (F44_E k) Try.f44 (F44_a a0 a1) K = (F44 k a0 a1).bind fun r => K (F44_r r) := by
  rw [F44_st, F44]
  simp only [F44_T, bind_cond, Option.bind_assoc, Option.bind_some, Option.bind_none, Option.bind_fun_some, F44_l0_lp]
theorem F44_con (k : Nat) (a0 : List (den (.int .u8))) (a1 : Int) : Contract Try.prog 44 (F44_a a0 a1) ⟨F44 k a0 a1, F44_r⟩ := con_of (envOk .none _ _ _ _) mixed Try.func44 rfl rfl (F44_ev k a0 a1 some)
def F44_sh : List AK := [.one (.b (.sl .own (.int .u8))), .one (.l (.int .i64))]
def F44_p (k : Nat) : List Arg → Option CR := cle F44_sh fun x => ⟨F44 k x.1 x.2.1, F44_r⟩
theorem F44_q (k : Nat) : ∀ xs cr, F44_p k xs = some cr → Contract Try.prog 44 xs cr := cle_ok fun x => F44_con k _ _
theorem F44_f : FnOk Try.prog 44 := .of (by kernel_rfl)
/-! 17: loop.example/netstack/laws.markSegmentS -/
def F17_h : Nat → Hint
  | 0 => ⟨[(0, .plain), (1, .plain), (5, .plain)], [(0, .plain)]⟩
  | _ => ⟨[], []⟩
def F17_t (k : Nat) : Tab := entT 43 (F43_p k) <| entT 44 (F44_p k) <| noTab
abbrev F17_E (k : Nat) : Env := env (F17_t k) F17_h .own [(true, 0)] k
abbrev F17_a (a0 : List (den seg)) (a1 : Int) : List Arg := [.one (.b (.s .own seg a0)), .one (.l (.v (.int .i64 a1)))]
def F17_r (r : Int × List (den seg)) : A × List (List Leaf) := (.one (.v (.int .i64 r.1)), [[.s .own seg r.2]])
def F17_s0 (a0 : List (den seg)) (a1 : Int) (x1_0 x5_0 : Int) (m0_0 : List (den seg)) : St := ⟨(.one (.a (.cell 0) 0 0 none)) :: (.one (.v (.int .i64 x1_0))) :: dz 3 ((.one (.v (.int .i64 x5_0))) :: dz 92 []), [(0, ⟨.s .own seg m0_0, 0, 0⟩)]⟩
def F17_l0_T {β : Type} (k : Nat) (a0 : List (den seg)) (a1 : Int) (NX : Int → Int → List (den seg) → Option β) (RET : (Int × List (den seg)) → Option β) (x1_0 x5_0 : Int) (m0_0 : List (den seg)) : Option β := cond (decide (x5_0 < ((m0_0.length : Nat) : Int))) (cond (decide (0 ≤ x5_0)) (cond (decide (x5_0 < ((m0_0.length : Nat) : Int))) ((sto (m0_0.set x5_0.toNat (x1_0, ((atI m0_0 x5_0).2).1, (((atI m0_0 x5_0).2).2).1, ((((atI m0_0 x5_0).2).2).2).1, (((((atI m0_0 x5_0).2).2).2).2).1, ((((((atI m0_0 x5_0).2).2).2).2).2).1, (((((((atI m0_0 x5_0).2).2).2).2).2).2).1, ((((((((atI m0_0 x5_0).2).2).2).2).2).2).2).1, (((((((((atI m0_0 x5_0).2).2).2).2).2).2).2).2).1, ((((((((((atI m0_0 x5_0).2).2).2).2).2).2).2).2).2)))).bind fun b1 => cond (decide (0 ≤ x5_0)) (cond (decide (x5_0 < ((b1.length : Nat) : Int))) ((sto (b1.set x5_0.toNat ((atI b1 x5_0).1, IntKind.i64.wrap (x1_0 + 1), (((atI b1 x5_0).2).2).1, ((((atI b1 x5_0).2).2).2).1, (((((atI b1 x5_0).2).2).2).2).1, ((((((atI b1 x5_0).2).2).2).2).2).1, (((((((atI b1 x5_0).2).2).2).2).2).2).1, ((((((((atI b1 x5_0).2).2).2).2).2).2).2).1, (((((((((atI b1 x5_0).2).2).2).2).2).2).2).2).1, ((((((((((atI b1 x5_0).2).2).2).2).2).2).2).2).2)))).bind fun b2 => cond (decide (0 ≤ x5_0)) (cond (decide (x5_0 < ((b2.length : Nat) : Int))) ((sto (b2.set x5_0.toNat ((atI b2 x5_0).1, ((atI b2 x5_0).2).1, IntKind.i64.wrap ((IntKind.i64.wrap (x1_0 + 1)) + 1), ((((atI b2 x5_0).2).2).2).1, (((((atI b2 x5_0).2).2).2).2).1, ((((((atI b2 x5_0).2).2).2).2).2).1, (((((((atI b2 x5_0).2).2).2).2).2).2).1, ((((((((atI b2 x5_0).2).2).2).2).2).2).2).1, (((((((((atI b2 x5_0).2).2).2).2).2).2).2).2).1, ((((((((((atI b2 x5_0).2).2).2).2).2).2).2).2).2)))).bind fun b3 => cond (decide (0 ≤ x5_0)) (cond (decide (x5_0 < ((b3.length : Nat) : Int))) ((sto (b3.set x5_0.toNat ((atI b3 x5_0).1, ((atI b3 x5_0).2).1, (((atI b3 x5_0).2).2).1, IntKind.i64.wrap ((IntKind.i64.wrap ((IntKind.i64.wrap (x1_0 + 1)) + 1)) + 1), (((((atI b3 x5_0).2).2).2).2).1, ((((((atI b3 x5_0).2).2).2).2).2).1, (((((((atI b3 x5_0).2).2).2).2).2).2).1, ((((((((atI b3 x5_0).2).2).2).2).2).2).2).1, (((((((((atI b3 x5_0).2).2).2).2).2).2).2).2).1, ((((((((((atI b3 x5_0).2).2).2).2).2).2).2).2).2)))).bind fun b4 => cond (decide (0 ≤ x5_0)) (cond (decide (x5_0 < ((b4.length : Nat) : Int))) ((sto (b4.set x5_0.toNat ((atI b4 x5_0).1, ((atI b4 x5_0).2).1, (((atI b4 x5_0).2).2).1, ((((atI b4 x5_0).2).2).2).1, IntKind.i64.wrap ((IntKind.i64.wrap ((IntKind.i64.wrap ((IntKind.i64.wrap (x1_0 + 1)) + 1)) + 1)) + 1), ((((((atI b4 x5_0).2).2).2).2).2).1, (((((((atI b4 x5_0).2).2).2).2).2).2).1, ((((((((atI b4 x5_0).2).2).2).2).2).2).2).1, (((((((((atI b4 x5_0).2).2).2).2).2).2).2).2).1, ((((((((((atI b4 x5_0).2).2).2).2).2).2).2).2).2)))).bind fun b5 => cond (decide (0 ≤ x5_0)) (cond (decide (x5_0 < ((b5.length : Nat) : Int))) ((sto (b5.set x5_0.toNat ((atI b5 x5_0).1, ((atI b5 x5_0).2).1, (((atI b5 x5_0).2).2).1, ((((atI b5 x5_0).2).2).2).1, (((((atI b5 x5_0).2).2).2).2).1, (((IntKind.i64.wrap ((IntKind.i64.wrap ((IntKind.i64.wrap ((IntKind.i64.wrap ((IntKind.i64.wrap (x1_0 + 1)) + 1)) + 1)) + 1)) + 1)).tmod 3) == 0), (((((((atI b5 x5_0).2).2).2).2).2).2).1, ((((((((atI b5 x5_0).2).2).2).2).2).2).2).1, (((((((((atI b5 x5_0).2).2).2).2).2).2).2).2).1, ((((((((((atI b5 x5_0).2).2).2).2).2).2).2).2).2)))).bind fun b6 => cond (decide (0 ≤ x5_0)) (cond (decide (x5_0 < ((b6.length : Nat) : Int))) ((sto (b6.set x5_0.toNat ((atI b6 x5_0).1, ((atI b6 x5_0).2).1, (((atI b6 x5_0).2).2).1, ((((atI b6 x5_0).2).2).2).1, (((((atI b6 x5_0).2).2).2).2).1, ((((((atI b6 x5_0).2).2).2).2).2).1, (((IntKind.i64.wrap ((IntKind.i64.wrap ((IntKind.i64.wrap ((IntKind.i64.wrap ((IntKind.i64.wrap ((IntKind.i64.wrap (x1_0 + 1)) + 1)) + 1)) + 1)) + 1)) + 1)).tmod 3) == 0), ((((((((atI b6 x5_0).2).2).2).2).2).2).2).1, (((((((((atI b6 x5_0).2).2).2).2).2).2).2).2).1, ((((((((((atI b6 x5_0).2).2).2).2).2).2).2).2).2)))).bind fun b7 => cond (decide (0 ≤ x5_0)) (cond (decide (x5_0 < ((b7.length : Nat) : Int))) ((sto (b7.set x5_0.toNat ((atI b7 x5_0).1, ((atI b7 x5_0).2).1, (((atI b7 x5_0).2).2).1, ((((atI b7 x5_0).2).2).2).1, (((((atI b7 x5_0).2).2).2).2).1, ((((((atI b7 x5_0).2).2).2).2).2).1, (((((((atI b7 x5_0).2).2).2).2).2).2).1, (((IntKind.i64.wrap ((IntKind.i64.wrap ((IntKind.i64.wrap ((IntKind.i64.wrap ((IntKind.i64.wrap ((IntKind.i64.wrap ((IntKind.i64.wrap (x1_0 + 1)) + 1)) + 1)) + 1)) + 1)) + 1)) + 1)).tmod 3) == 0), (((((((((atI b7 x5_0).2).2).2).2).2).2).2).2).1, ((((((((((atI b7 x5_0).2).2).2).2).2).2).2).2).2)))).bind fun b8 => cond (decide (0 ≤ x5_0)) (cond (decide (x5_0 < ((b8.length : Nat) : Int))) ((sto (b8.set x5_0.toNat ((atI b8 x5_0).1, ((atI b8 x5_0).2).1, (((atI b8 x5_0).2).2).1, ((((atI b8 x5_0).2).2).2).1, (((((atI b8 x5_0).2).2).2).2).1, ((((((atI b8 x5_0).2).2).2).2).2).1, (((((((atI b8 x5_0).2).2).2).2).2).2).1, ((((((((atI b8 x5_0).2).2).2).2).2).2).2).1, (((IntKind.i64.wrap ((IntKind.i64.wrap ((IntKind.i64.wrap ((IntKind.i64.wrap ((IntKind.i64.wrap ((IntKind.i64.wrap ((IntKind.i64.wrap ((IntKind.i64.wrap (x1_0 + 1)) + 1)) + 1)) + 1)) + 1)) + 1)) + 1)) + 1)).tmod 3) == 0), ((((((((((atI b8 x5_0).2).2).2).2).2).2).2).2).2)))).bind fun b9 => cond (decide (0 ≤ x5_0)) (cond (decide (x5_0 < ((b9.length : Nat) : Int))) ((F43 k (((((((((((atI b9 x5_0).2).2).2).2).2).2).2).2).2).1) (IntKind.i64.wrap ((IntKind.i64.wrap ((IntKind.i64.wrap ((IntKind.i64.wrap ((IntKind.i64.wrap ((IntKind.i64.wrap ((IntKind.i64.wrap ((IntKind.i64.wrap ((IntKind.i64.wrap (x1_0 + 1)) + 1)) + 1)) + 1)) + 1)) + 1)) + 1)) + 1)) + 1))).bind fun b10 => cond (decide (0 ≤ x5_0)) (cond (decide (x5_0 < (((b9.set x5_0.toNat ((atI b9 x5_0).1, ((atI b9 x5_0).2).1, (((atI b9 x5_0).2).2).1, ((((atI b9 x5_0).2).2).2).1, (((((atI b9 x5_0).2).2).2).2).1, ((((((atI b9 x5_0).2).2).2).2).2).1, (((((((atI b9 x5_0).2).2).2).2).2).2).1, ((((((((atI b9 x5_0).2).2).2).2).2).2).2).1, (((((((((atI b9 x5_0).2).2).2).2).2).2).2).2).1, b10.2, ((((((((((atI b9 x5_0).2).2).2).2).2).2).2).2).2).2)).length : Nat) : Int))) ((F44 k (((((((((((atI (b9.set x5_0.toNat ((atI b9 x5_0).1, ((atI b9 x5_0).2).1, (((atI b9 x5_0).2).2).1, ((((atI b9 x5_0).2).2).2).1, (((((atI b9 x5_0).2).2).2).2).1, ((((((atI b9 x5_0).2).2).2).2).2).1, (((((((atI b9 x5_0).2).2).2).2).2).2).1, ((((((((atI b9 x5_0).2).2).2).2).2).2).2).1, (((((((((atI b9 x5_0).2).2).2).2).2).2).2).2).1, b10.2, ((((((((((atI b9 x5_0).2).2).2).2).2).2).2).2).2).2)) x5_0).2).2).2).2).2).2).2).2).2).2) b10.1).bind fun b11 => NX b11.1 (IntKind.i64.wrap (x5_0 + 1)) ((b9.set x5_0.toNat ((atI b9 x5_0).1, ((atI b9 x5_0).2).1, (((atI b9 x5_0).2).2).1, ((((atI b9 x5_0).2).2).2).1, (((((atI b9 x5_0).2).2).2).2).1, ((((((atI b9 x5_0).2).2).2).2).2).1, (((((((atI b9 x5_0).2).2).2).2).2).2).1, ((((((((atI b9 x5_0).2).2).2).2).2).2).2).1, (((((((((atI b9 x5_0).2).2).2).2).2).2).2).2).1, b10.2, ((((((((((atI b9 x5_0).2).2).2).2).2).2).2).2).2).2)).set x5_0.toNat ((atI (b9.set x5_0.toNat ((atI b9 x5_0).1, ((atI b9 x5_0).2).1, (((atI b9 x5_0).2).2).1, ((((atI b9 x5_0).2).2).2).1, (((((atI b9 x5_0).2).2).2).2).1, ((((((atI b9 x5_0).2).2).2).2).2).1, (((((((atI b9 x5_0).2).2).2).2).2).2).1, ((((((((atI b9 x5_0).2).2).2).2).2).2).2).1, (((((((((atI b9 x5_0).2).2).2).2).2).2).2).2).1, b10.2, ((((((((((atI b9 x5_0).2).2).2).2).2).2).2).2).2).2)) x5_0).1, ((atI (b9.set x5_0.toNat ((atI b9 x5_0).1, ((atI b9 x5_0).2).1, (((atI b9 x5_0).2).2).1, ((((atI b9 x5_0).2).2).2).1, (((((atI b9 x5_0).2).2).2).2).1, ((((((atI b9 x5_0).2).2).2).2).2).1, (((((((atI b9 x5_0).2).2).2).2).2).2).1, ((((((((atI b9 x5_0).2).2).2).2).2).2).2).1, (((((((((atI b9 x5_0).2).2).2).2).2).2).2).2).1, b10.2, ((((((((((atI b9 x5_0).2).2).2).2).2).2).2).2).2).2)) x5_0).2).1, (((atI (b9.set x5_0.toNat ((atI b9 x5_0).1, ((atI b9 x5_0).2).1, (((atI b9 x5_0).2).2).1, ((((atI b9 x5_0).2).2).2).1, (((((atI b9 x5_0).2).2).2).2).1, ((((((atI b9 x5_0).2).2).2).2).2).1, (((((((atI b9 x5_0).2).2).2).2).2).2).1, ((((((((atI b9 x5_0).2).2).2).2).2).2).2).1, (((((((((atI b9 x5_0).2).2).2).2).2).2).2).2).1, b10.2, ((((((((((atI b9 x5_0).2).2).2).2).2).2).2).2).2).2)) x5_0).2).2).1, ((((atI (b9.set x5_0.toNat ((atI b9 x5_0).1, ((atI b9 x5_0).2).1, (((atI b9 x5_0).2).2).1, ((((atI b9 x5_0).2).2).2).1, (((((atI b9 x5_0).2).2).2).2).1, ((((((atI b9 x5_0).2).2).2).2).2).1, (((((((atI b9 x5_0).2).2).2).2).2).2).1, ((((((((atI b9 x5_0).2).2).2).2).2).2).2).1, (((((((((atI b9 x5_0).2).2).2).2).2).2).2).2).1, b10.2, ((((((((((atI b9 x5_0).2).2).2).2).2).2).2).2).2).2)) x5_0).2).2).2).1, (((((atI (b9.set x5_0.toNat ((atI b9 x5_0).1, ((atI b9 x5_0).2).1, (((atI b9 x5_0).2).2).1, ((((atI b9 x5_0).2).2).2).1, (((((atI b9 x5_0).2).2).2).2).1, ((((((atI b9 x5_0).2).2).2).2).2).1, (((((((atI b9 x5_0).2).2).2).2).2).2).1, ((((((((atI b9 x5_0).2).2).2).2).2).2).2).1, (((((((((atI b9 x5_0).2).2).2).2).2).2).2).2).1, b10.2, ((((((((((atI b9 x5_0).2).2).2).2).2).2).2).2).2).2)) x5_0).2).2).2).2).1, ((((((atI (b9.set x5_0.toNat ((atI b9 x5_0).1, ((atI b9 x5_0).2).1, (((atI b9 x5_0).2).2).1, ((((atI b9 x5_0).2).2).2).1, (((((atI b9 x5_0).2).2).2).2).1, ((((((atI b9 x5_0).2).2).2).2).2).1, (((((((atI b9 x5_0).2).2).2).2).2).2).1, ((((((((atI b9 x5_0).2).2).2).2).2).2).2).1, (((((((((atI b9 x5_0).2).2).2).2).2).2).2).2).1, b10.2, ((((((((((atI b9 x5_0).2).2).2).2).2).2).2).2).2).2)) x5_0).2).2).2).2).2).1, (((((((atI (b9.set x5_0.toNat ((atI b9 x5_0).1, ((atI b9 x5_0).2).1, (((atI b9 x5_0).2).2).1, ((((atI b9 x5_0).2).2).2).1, (((((atI b9 x5_0).2).2).2).2).1, ((((((atI b9 x5_0).2).2).2).2).2).1, (((((((atI b9 x5_0).2).2).2).2).2).2).1, ((((((((atI b9 x5_0).2).2).2).2).2).2).2).1, (((((((((atI b9 x5_0).2).2).2).2).2).2).2).2).1, b10.2, ((((((((((atI b9 x5_0).2).2).2).2).2).2).2).2).2).2)) x5_0).2).2).2).2).2).2).1, ((((((((atI (b9.set x5_0.toNat ((atI b9 x5_0).1, ((atI b9 x5_0).2).1, (((atI b9 x5_0).2).2).1, ((((atI b9 x5_0).2).2).2).1, (((((atI b9 x5_0).2).2).2).2).1, ((((((atI b9 x5_0).2).2).2).2).2).1, (((((((atI b9 x5_0).2).2).2).2).2).2).1, ((((((((atI b9 x5_0).2).2).2).2).2).2).2).1, (((((((((atI b9 x5_0).2).2).2).2).2).2).2).2).1, b10.2, ((((((((((atI b9 x5_0).2).2).2).2).2).2).2).2).2).2)) x5_0).2).2).2).2).2).2).2).1, (((((((((atI (b9.set x5_0.toNat ((atI b9 x5_0).1, ((atI b9 x5_0).2).1, (((atI b9 x5_0).2).2).1, ((((atI b9 x5_0).2).2).2).1, (((((atI b9 x5_0).2).2).2).2).1, ((((((atI b9 x5_0).2).2).2).2).2).1, (((((((atI b9 x5_0).2).2).2).2).2).2).1, ((((((((atI b9 x5_0).2).2).2).2).2).2).2).1, (((((((((atI b9 x5_0).2).2).2).2).2).2).2).2).1, b10.2, ((((((((((atI b9 x5_0).2).2).2).2).2).2).2).2).2).2)) x5_0).2).2).2).2).2).2).2).2).1, ((((((((((atI (b9.set x5_0.toNat ((atI b9 x5_0).1, ((atI b9 x5_0).2).1, (((atI b9 x5_0).2).2).1, ((((atI b9 x5_0).2).2).2).1, (((((atI b9 x5_0).2).2).2).2).1, ((((((atI b9 x5_0).2).2).2).2).2).1, (((((((atI b9 x5_0).2).2).2).2).2).2).1, ((((((((atI b9 x5_0).2).2).2).2).2).2).2).1, (((((((((atI b9 x5_0).2).2).2).2).2).2).2).2).1, b10.2, ((((((((((atI b9 x5_0).2).2).2).2).2).2).2).2).2).2)) x5_0).2).2).2).2).2).2).2).2).2).1, b11.2))) none) none) none) none) none) none) none) none) none) none) none) none) none) none) none) none) none) none) none) none) none) none) (RET (x1_0, m0_0))
def F17_l0 (k : Nat) (a0 : List (den seg)) (a1 : Int) : Nat → Int → Int → List (den seg) → Option (Int × List (den seg))
  | 0, _, _, _ => none
  | n + 1, x1_0, x5_0, m0_0 => F17_l0_T k a0 a1 (fun x1_0 x5_0 m0_0 => F17_l0 k a0 a1 n x1_0 x5_0 m0_0) some x1_0 x5_0 m0_0
theorem F17_l0_rd {β : Type} (k n : Nat) (a0 : List (den seg)) (a1 : Int) (x1_0 x5_0 : Int) (m0_0 : List (den seg)) (K : A × List (List Leaf) → Option β) :
    loopG (F17_E k) Try.f17 [1, 0, 1, 0] 0 (kontAt (F17_E k) [1, 0, 1, 0] (bodyOf Try.f17) 0 (endC (F17_E k) Try.f17 (F17_a a0 a1) K)) (n + 1) (F17_s0 a0 a1 x1_0 x5_0 m0_0) =
    F17_l0_T k a0 a1 (fun x1_0 x5_0 m0_0 => loopG (F17_E k) Try.f17 [1, 0, 1, 0] 0 (kontAt (F17_E k) [1, 0, 1, 0] (bodyOf Try.f17) 0 (endC (F17_E k) Try.f17 (F17_a a0 a1) K)) n (F17_s0 a0 a1 x1_0 x5_0 m0_0)) (fun r => K (F17_r r)) x1_0 x5_0 m0_0 := by kernel_rfl
theorem F17_l0_lp {β : Type} (k : Nat) (a0 : List (den seg)) (a1 : Int) (K : A × List (List Leaf) → Option β) (n : Nat) : ∀ (x1_0 x5_0 : Int) (m0_0 : List (den seg)), loopG (F17_E k) Try.f17 [1, 0, 1, 0] 0 (kontAt (F17_E k) [1, 0, 1, 0] (bodyOf Try.f17) 0 (endC (F17_E k) Try.f17 (F17_a a0 a1) K)) n (F17_s0 a0 a1 x1_0 x5_0 m0_0) =
    (F17_l0 k a0 a1 n x1_0 x5_0 m0_0).bind fun r => K (F17_r r) := by
  induction n with
  | zero => intros; rfl
  | succ n ih =>
    intros
    rw [F17_l0_rd, F17_l0]
    simp only [F17_l0_T, bind_cond, Option.bind_assoc, Option.bind_some, Option.bind_none, Option.bind_fun_some, ih]
def F17_T {β : Type} (k : Nat) (a0 : List (den seg)) (a1 : Int) (LP0 : Int → Int → List (den seg) → Option β) : Option β := LP0 a1 0 a0
def F17 (k : Nat) (a0 : List (den seg)) (a1 : Int) : Option (Int × List (den seg)) := F17_T k a0 a1 (fun x1_0 x5_0 m0_0 => F17_l0 k a0 a1 k x1_0 x5_0 m0_0)
theorem F17_st {β : Type} (k : Nat) (a0 : List (den seg)) (a1 : Int) (K : A × List (List Leaf) → Option β) : evalF (F17_E k) Try.f17 (F17_a a0 a1) K =
    F17_T k a0 a1 (fun x1_0 x5_0 m0_0 => loopG (F17_E k) Try.f17 [1, 0, 1, 0] 0 (kontAt (F17_E k) [1, 0, 1, 0] (bodyOf Try.f17) 0 (endC (F17_E k) Try.f17 (F17_a a0 a1) K)) k (F17_s0 a0 a1 x1_0 x5_0 m0_0)) := by kernel_rfl
theorem F17_ev {β : Type} (k : Nat) (a0 : List (den seg)) (a1 : Int) (K : A × List (List Leaf) → Option β) : evalF (F17_E k) Try.f17 (F17_a a0 a1) K = (F17 k a0 a1).bind fun r => K (F17_r r) := by
  rw [F17_st, F17]
  simp only [F17_T, bind_cond, Option.bind_assoc, Option.bind_some, Option.bind_none, Option.bind_fun_some, F17_l0_lp]
theorem F17_tOk (k : Nat) : TabFn Try.prog (F17_t k) := .ent (F43_q k) F43_f (.ent (F44_q k) F44_f (.none))
theorem F17_con (k : Nat) (a0 : List (den seg)) (a1 : Int) : Contract Try.prog 17 (F17_a a0 a1) ⟨F17 k a0 a1, F17_r⟩ := con_of (envOk (F17_tOk k) _ _ _ _) mixed Try.func17 rfl rfl (F17_ev k a0 a1 some)
def F17_sh : List AK := [.one (.b (.sl .own seg)), .one (.l (.int .i64))]
def F17_p (k : Nat) : List Arg → Option CR := cle F17_sh fun x => ⟨F17 k x.1 x.2.1, F17_r⟩
theorem F17_q (k : Nat) : ∀ xs cr, F17_p k xs = some cr → Contract Try.prog 17 xs cr := cle_ok fun x => F17_con k _ _
theorem F17_f : FnOk Try.prog 17 := .of (by kernel_rfl)
/-! 45: loop.example/netstack/laws.heldRangeS -/
def F45_h : Nat → Hint
  | 0 => ⟨[(0, .plain), (1, .plain), (5, .plain)], []⟩
  | _ => ⟨[], []⟩
abbrev F45_E (k : Nat) : Env := env noTab F45_h .own [] k
abbrev F45_a (a0 : List (den rng)) (a1 : Int) : List Arg := [.one (.l (.s .ro rng a0)), .one (.l (.v (.int .i64 a1)))]
def F45_r (r : Int) : A × List (List Leaf) := (.one (.v (.int .i64 r)), [])
def F45_s0 (a0 : List (den rng)) (a1 : Int) (x1_0 x5_0 : Int) : St := ⟨(.one (.s .ro rng a0)) :: (.one (.v (.int .i64 x1_0))) :: dz 3 ((.one (.v (.int .i64 x5_0))) :: dz 25 []), []⟩
def F45_l0_T {β : Type} (k : Nat) (a0 : List (den rng)) (a1 : Int) (NX : Int → Int → Option β) (RET : Int → Option β) (x1_0 x5_0 : Int) : Option β := cond (decide (x5_0 < ((a0.length : Nat) : Int))) (cond (decide (0 ≤ x5_0)) (cond (decide (x5_0 < ((a0.length : Nat) : Int))) (cond (((atI a0 x5_0).1) != x1_0) (RET (-1)) (cond (decide (0 ≤ x5_0)) (cond (decide (x5_0 < ((a0.length : Nat) : Int))) (cond (((atI a0 x5_0).2) != (IntKind.i64.wrap (x1_0 + 1))) (RET (-1)) (NX (IntKind.i64.wrap ((IntKind.i64.wrap (x1_0 + 1)) + 1)) (IntKind.i64.wrap (x5_0 + 1)))) none) none)) none) none) (RET x1_0)
def F45_l0 (k : Nat) (a0 : List (den rng)) (a1 : Int) : Nat → Int → Int → Option (Int)
  | 0, _, _ => none
  | n + 1, x1_0, x5_0 => F45_l0_T k a0 a1 (fun x1_0 x5_0 => F45_l0 k a0 a1 n x1_0 x5_0) some x1_0 x5_0
theorem F45_l0_rd {β : Type} (k n : Nat) (a0 : List (den rng)) (a1 : Int) (x1_0 x5_0 : Int) (K : A × List (List Leaf) → Option β) :
    loopG (F45_E k) Try.f45 [1, 0, 1, 0] 0 (kontAt (F45_E k) [1, 0, 1, 0] (bodyOf Try.f45) 0 (endC (F45_E k) Try.f45 (F45_a a0 a1) K)) (n + 1) (F45_s0 a0 a1 x1_0 x5_0) =
    F45_l0_T k a0 a1 (fun x1_0 x5_0 => loopG (F45_E k) Try.f45 [1, 0, 1, 0] 0 (kontAt (F45_E k) [1, 0, 1, 0] (bodyOf Try.f45) 0 (endC (F45_E k) Try.f45 (F45_a a0 a1) K)) n (F45_s0 a0 a1 x1_0 x5_0)) (fun r => K (F45_r r)) x1_0 x5_0 := by kernel_rfl
theorem F45_l0_lp {β : Type} (k : Nat) (a0 : List (den rng)) (a1 : Int) (K : A × List (List Leaf) → Option β) (n : Nat) : ∀ (x1_0 x5_0 : Int), loopG (F45_E k) Try.f45 [1, 0, 1, 0] 0 (kontAt (F45_E k) [1, 0, 1, 0] (bodyOf Try.f45) 0 (endC (F45_E k) Try.f45 (F45_a a0 a1) K)) n (F45_s0 a0 a1 x1_0 x5_0) =
    (F45_l0 k a0 a1 n x1_0 x5_0).bind fun r => K (F45_r r) := by
  induction n with
  | zero => intros; rfl
  | succ n ih =>
    intros
    rw [F45_l0_rd, F45_l0]
    simp only [F45_l0_T, bind_cond, Option.bind_assoc, Option.bind_some, Option.bind_none, Option.bind_fun_some, ih]
def F45_T {β : Type} (k : Nat) (a0 : List (den rng)) (a1 : Int) (LP0 : Int → Int → Option β) : Option β := LP0 a1 0
def F45 (k : Nat) (a0 : List (den rng)) (a1 : Int) : Option (Int) := F45_T k a0 a1 (fun x1_0 x5_0 => F45_l0 k a0 a1 k x1_0 x5_0)
theorem F45_st {β : Type} (k : Nat) (a0 : List (den rng)) (a1 : Int) (K : A × List (List Leaf) → Option β) : evalF (F45_E k) Try.f45 (F45_a a0 a1) K =
    F45_T k a0 a1 (fun x1_0 x5_0 => loopG (F45_E k) Try.f45 [1, 0, 1, 0] 0 (kontAt (F45_E k) [1, 0, 1, 0] (bodyOf Try.f45) 0 (endC (F45_E k) Try.f45 (F45_a a0 a1) K)) k (F45_s0 a0 a1 x1_0 x5_0)) := by kernel_rfl
theorem F45_ev {β : Type} (k : Nat) (a0 : List (den rng)) (a1 : Int) (K : A × List (List Leaf) → Option β) : evalF (F45_E k) Try.f45 (F45_a a0 a1) K = (F45 k a0 a1).bind fun r => K (F45_r r) := by
  rw [F45_st, F45]
  simp only [F45_T, bind_cond, Option.bind_assoc, Option.bind_some, Option.bind_none, Option.bind_fun_some, F45_l0_lp]
theorem F45_con (k : Nat) (a0 : List (den rng)) (a1 : Int) : Contract Try.prog 45 (F45_a a0 a1) ⟨F45 k a0 a1, F45_r⟩ := con_of (envOk .none _ _ _ _) mixed Try.func45 rfl rfl (F45_ev k a0 a1 some)
def F45_sh : List AK := [.one (.l (.sl .ro rng)), .one (.l (.int .i64))]
def F45_p (k : Nat) : List Arg → Option CR := cle F45_sh fun x => ⟨F45 k x.1 x.2.1, F45_r⟩
theorem F45_q (k : Nat) : ∀ xs cr, F45_p k xs = some cr → Contract Try.prog 45 xs cr := cle_ok fun x => F45_con k _ _
theorem F45_f : FnOk Try.prog 45 := .of (by kernel_rfl)
/-! 46: loop.example/netstack/laws.heldByteS -/
def F46_h : Nat → Hint
  | 0 => ⟨[(0, .plain), (1, .plain), (5, .plain)], []⟩
  | _ => ⟨[], []⟩
abbrev F46_E (k : Nat) : Env := env noTab F46_h .own [] k
abbrev F46_a (a0 : List (den (.int .u8))) (a1 : Int) : List Arg := [.one (.l (.s .ro (.int .u8) a0)), .one (.l (.v (.int .i64 a1)))]
def F46_r (r : Int) : A × List (List Leaf) := (.one (.v (.int .i64 r)), [])
def F46_s0 (a0 : List (den (.int .u8))) (a1 : Int) (x1_0 x5_0 : Int) : St := ⟨(.one (.s .ro (.int .u8) a0)) :: (.one (.v (.int .i64 x1_0))) :: dz 3 ((.one (.v (.int .i64 x5_0))) :: dz 16 []), []⟩
def F46_l0_T {β : Type} (k : Nat) (a0 : List (den (.int .u8))) (a1 : Int) (NX : Int → Int → Option β) (RET : Int → Option β) (x1_0 x5_0 : Int) : Option β := cond (decide (x5_0 < ((a0.length : Nat) : Int))) (cond (decide (0 ≤ x5_0)) (cond (decide (x5_0 < ((a0.length : Nat) : Int))) (cond ((atI a0 x5_0) != (IntKind.u8.wrap (x1_0))) (RET (-1)) (NX (IntKind.i64.wrap (x1_0 + 1)) (IntKind.i64.wrap (x5_0 + 1)))) none) none) (RET x1_0)
def F46_l0 (k : Nat) (a0 : List (den (.int .u8))) (a1 : Int) : Nat → Int → Int → Option (Int)
  | 0, _, _ => none
  | n + 1, x1_0, x5_0 => F46_l0_T k a0 a1 (fun x1_0 x5_0 => F46_l0 k a0 a1 n x1_0 x5_0) some x1_0 x5_0
theorem F46_l0_rd {β : Type} (k n : Nat) (a0 : List (den (.int .u8))) (a1 : Int) (x1_0 x5_0 : Int) (K : A × List (List Leaf) → Option β) :
    loopG (F46_E k) Try.f46 [1, 0, 1, 0] 0 (kontAt (F46_E k) [1, 0, 1, 0] (bodyOf Try.f46) 0 (endC (F46_E k) Try.f46 (F46_a a0 a1) K)) (n + 1) (F46_s0 a0 a1 x1_0 x5_0) =
    F46_l0_T k a0 a1 (fun x1_0 x5_0 => loopG (F46_E k) Try.f46 [1, 0, 1, 0] 0 (kontAt (F46_E k) [1, 0, 1, 0] (bodyOf Try.f46) 0 (endC (F46_E k) Try.f46 (F46_a a0 a1) K)) n (F46_s0 a0 a1 x1_0 x5_0)) (fun r => K (F46_r r)) x1_0 x5_0 := by kernel_rfl
theorem F46_l0_lp {β : Type} (k : Nat) (a0 : List (den (.int .u8))) (a1 : Int) (K : A × List (List Leaf) → Option β) (n : Nat) : ∀ (x1_0 x5_0 : Int), loopG (F46_E k) Try.f46 [1, 0, 1, 0] 0 (kontAt (F46_E k) [1, 0, 1, 0] (bodyOf Try.f46) 0 (endC (F46_E k) Try.f46 (F46_a a0 a1) K)) n (F46_s0 a0 a1 x1_0 x5_0) =
    (F46_l0 k a0 a1 n x1_0 x5_0).bind fun r => K (F46_r r) := by
  induction n with
  | zero => intros; rfl
  | succ n ih =>
    intros
    rw [F46_l0_rd, F46_l0]
    simp only [F46_l0_T, bind_cond, Option.bind_assoc, Option.bind_some, Option.bind_none, Option.bind_fun_some, ih]
def F46_T {β : Type} (k : Nat) (a0 : List (den (.int .u8))) (a1 : Int) (LP0 : Int → Int → Option β) : Option β := LP0 a1 0
def F46 (k : Nat) (a0 : List (den (.int .u8))) (a1 : Int) : Option (Int) := F46_T k a0 a1 (fun x1_0 x5_0 => F46_l0 k a0 a1 k x1_0 x5_0)
theorem F46_st {β : Type} (k : Nat) (a0 : List (den (.int .u8))) (a1 : Int) (K : A × List (List Leaf) → Option β) : evalF (F46_E k) Try.f46 (F46_a a0 a1) K =
    F46_T k a0 a1 (fun x1_0 x5_0 => loopG (F46_E k) Try.f46 [1, 0, 1, 0] 0 (kontAt (F46_E k) [1, 0, 1, 0] (bodyOf Try.f46) 0 (endC (F46_E k) Try.f46 (F46_a a0 a1) K)) k (F46_s0 a0 a1 x1_0 x5_0)) := by kernel_rfl
theorem F46_ev {β : Type} (k : Nat) (a0 : List (den (.int .u8))) (a1 : Int) (K : A × List (List Leaf) → Option β) : evalF (F46_E k) Try.f46 (F46_a a0 a1) K = (F46 k a0 a1).bind fun r => K (F46_r r) := by
  rw [F46_st, F46]
  simp only [F46_T, bind_cond, Option.bind_assoc, Option.bind_some, Option.bind_none, Option.bind_fun_some, F46_l0_lp]
theorem F46_con (k : Nat) (a0 : List (den (.int .u8))) (a1 : Int) : Contract Try.prog 46 (F46_a a0 a1) ⟨F46 k a0 a1, F46_r⟩ := con_of (envOk .none _ _ _ _) mixed Try.func46 rfl rfl (F46_ev k a0 a1 some)
def F46_sh : List AK := [.one (.l (.sl .ro (.int .u8))), .one (.l (.int .i64))]
def F46_p (k : Nat) : List Arg → Option CR := cle F46_sh fun x => ⟨F46 k x.1 x.2.1, F46_r⟩
theorem F46_q (k : Nat) : ∀ xs cr, F46_p k xs = some cr → Contract Try.prog 46 xs cr := cle_ok fun x => F46_con k _ _
theorem F46_f : FnOk Try.prog 46 := .of (by kernel_rfl)
/-! 18: loop.example/netstack/laws.heldSegmentS -/
def F18_h : Nat → Hint
  | 0 => ⟨[(0, .plain), (1, .plain), (5, .plain)], []⟩
  | _ => ⟨[], []⟩
def F18_t (k : Nat) : Tab := entT 45 (F45_p k) <| entT 46 (F46_p k) <| noTab
abbrev F18_E (k : Nat) : Env := env (F18_t k) F18_h .own [] k
abbrev F18_a (a0 : List (den seg)) (a1 : Int) : List Arg := [.one (.l (.s .ro seg a0)), .one (.l (.v (.int .i64 a1)))]
def F18_r (r : Int) : A × List (List Leaf) := (.one (.v (.int .i64 r)), [])
def F18_s0 (a0 : List (den seg)) (a1 : Int) (x1_0 x5_0 : Int) : St := ⟨(.one (.s .ro seg a0)) :: (.one (.v (.int .i64 x1_0))) :: dz 3 ((.one (.v (.int .i64 x5_0))) :: dz 114 []), []⟩
def F18_l0_T {β : Type} (k : Nat) (a0 : List (den seg)) (a1 : Int) (NX : Int → Int → Option β) (RET : Int → Option β) (x1_0 x5_0 : Int) : Option β := cond (decide (x5_0 < ((a0.length : Nat) : Int))) (cond (decide (0 ≤ x5_0)) (cond (decide (x5_0 < ((a0.length : Nat) : Int))) (cond (((atI a0 x5_0).1) != x1_0) (RET (-1)) (cond (decide (0 ≤ x5_0)) (cond (decide (x5_0 < ((a0.length : Nat) : Int))) (cond ((((atI a0 x5_0).2).1) != (IntKind.i64.wrap (x1_0 + 1))) (RET (-1)) (cond (decide (0 ≤ x5_0)) (cond (decide (x5_0 < ((a0.length : Nat) : Int))) (cond (((((atI a0 x5_0).2).2).1) != (IntKind.i64.wrap ((IntKind.i64.wrap (x1_0 + 1)) + 1))) (RET (-1)) (cond (decide (0 ≤ x5_0)) (cond (decide (x5_0 < ((a0.length : Nat) : Int))) (cond ((((((atI a0 x5_0).2).2).2).1) != (IntKind.i64.wrap ((IntKind.i64.wrap ((IntKind.i64.wrap (x1_0 + 1)) + 1)) + 1))) (RET (-1)) (cond (decide (0 ≤ x5_0)) (cond (decide (x5_0 < ((a0.length : Nat) : Int))) (cond (((((((atI a0 x5_0).2).2).2).2).1) != (IntKind.i64.wrap ((IntKind.i64.wrap ((IntKind.i64.wrap ((IntKind.i64.wrap (x1_0 + 1)) + 1)) + 1)) + 1))) (RET (-1)) (cond (decide (0 ≤ x5_0)) (cond (decide (x5_0 < ((a0.length : Nat) : Int))) (cond (!((((((((atI a0 x5_0).2).2).2).2).2).1) == (((IntKind.i64.wrap ((IntKind.i64.wrap ((IntKind.i64.wrap ((IntKind.i64.wrap ((IntKind.i64.wrap (x1_0 + 1)) + 1)) + 1)) + 1)) + 1)).tmod 3) == 0))) (RET (-1)) (cond (decide (0 ≤ x5_0)) (cond (decide (x5_0 < ((a0.length : Nat) : Int))) (cond (!(((((((((atI a0 x5_0).2).2).2).2).2).2).1) == (((IntKind.i64.wrap ((IntKind.i64.wrap ((IntKind.i64.wrap ((IntKind.i64.wrap ((IntKind.i64.wrap ((IntKind.i64.wrap (x1_0 + 1)) + 1)) + 1)) + 1)) + 1)) + 1)).tmod 3) == 0))) (RET (-1)) (cond (decide (0 ≤ x5_0)) (cond (decide (x5_0 < ((a0.length : Nat) : Int))) (cond (!((((((((((atI a0 x5_0).2).2).2).2).2).2).2).1) == (((IntKind.i64.wrap ((IntKind.i64.wrap ((IntKind.i64.wrap ((IntKind.i64.wrap ((IntKind.i64.wrap ((IntKind.i64.wrap ((IntKind.i64.wrap (x1_0 + 1)) + 1)) + 1)) + 1)) + 1)) + 1)) + 1)).tmod 3) == 0))) (RET (-1)) (cond (decide (0 ≤ x5_0)) (cond (decide (x5_0 < ((a0.length : Nat) : Int))) (cond (!(((((((((((atI a0 x5_0).2).2).2).2).2).2).2).2).1) == (((IntKind.i64.wrap ((IntKind.i64.wrap ((IntKind.i64.wrap ((IntKind.i64.wrap ((IntKind.i64.wrap ((IntKind.i64.wrap ((IntKind.i64.wrap ((IntKind.i64.wrap (x1_0 + 1)) + 1)) + 1)) + 1)) + 1)) + 1)) + 1)) + 1)).tmod 3) == 0))) (RET (-1)) (cond (decide (0 ≤ x5_0)) (cond (decide (x5_0 < ((a0.length : Nat) : Int))) ((F45 k (((((((((((atI a0 x5_0).2).2).2).2).2).2).2).2).2).1) (IntKind.i64.wrap ((IntKind.i64.wrap ((IntKind.i64.wrap ((IntKind.i64.wrap ((IntKind.i64.wrap ((IntKind.i64.wrap ((IntKind.i64.wrap ((IntKind.i64.wrap ((IntKind.i64.wrap (x1_0 + 1)) + 1)) + 1)) + 1)) + 1)) + 1)) + 1)) + 1)) + 1))).bind fun b1 => cond (decide (b1 < 0)) (RET (-1)) (cond (decide (0 ≤ x5_0)) (cond (decide (x5_0 < ((a0.length : Nat) : Int))) ((F46 k (((((((((((atI a0 x5_0).2).2).2).2).2).2).2).2).2).2) b1).bind fun b2 => cond (decide (b2 < 0)) (RET (-1)) (NX b2 (IntKind.i64.wrap (x5_0 + 1)))) none) none)) none) none)) none) none)) none) none)) none) none)) none) none)) none) none)) none) none)) none) none)) none) none)) none) none) (RET x1_0)
def F18_l0 (k : Nat) (a0 : List (den seg)) (a1 : Int) : Nat → Int → Int → Option (Int)
  | 0, _, _ => none
  | n + 1, x1_0, x5_0 => F18_l0_T k a0 a1 (fun x1_0 x5_0 => F18_l0 k a0 a1 n x1_0 x5_0) some x1_0 x5_0
theorem F18_l0_rd {β : Type} (k n : Nat) (a0 : List (den seg)) (a1 : Int) (x1_0 x5_0 : Int) (K : A × List (List Leaf) → Option β) :
    loopG (F18_E k) Try.f18 [1, 0, 1, 0] 0 (kontAt (F18_E k) [1, 0, 1, 0] (bodyOf Try.f18) 0 (endC (F18_E k) Try.f18 (F18_a a0 a1) K)) (n + 1) (F18_s0 a0 a1 x1_0 x5_0) =
    F18_l0_T k a0 a1 (fun x1_0 x5_0 => loopG (F18_E k) Try.f18 [1, 0, 1, 0] 0 (kontAt (F18_E k) [1, 0, 1, 0] (bodyOf Try.f18) 0 (endC (F18_E k) Try.f18 (F18_a a0 a1) K)) n (F18_s0 a0 a1 x1_0 x5_0)) (fun r => K (F18_r r)) x1_0 x5_0 := by kernel_rfl
theorem F18_l0_lp {β : Type} (k : Nat) (a0 : List (den seg)) (a1 : Int) (K : A × List (List Leaf) → Option β) (n : Nat) : ∀ (x1_0 x5_0 : Int), loopG (F18_E k) Try.f18 [1, 0, 1, 0] 0 (kontAt (F18_E k) [1, 0, 1, 0] (bodyOf Try.f18) 0 (endC (F18_E k) Try.f18 (F18_a a0 a1) K)) n (F18_s0 a0 a1 x1_0 x5_0) =
    (F18_l0 k a0 a1 n x1_0 x5_0).bind fun r => K (F18_r r) := by
  induction n with
  | zero => intros; rfl
  | succ n ih =>
    intros
    rw [F18_l0_rd, F18_l0]
    simp only [F18_l0_T, bind_cond, Option.bind_assoc, Option.bind_some, Option.bind_none, Option.bind_fun_some, ih]
def F18_T {β : Type} (k : Nat) (a0 : List (den seg)) (a1 : Int) (LP0 : Int → Int → Option β) : Option β := LP0 a1 0
def F18 (k : Nat) (a0 : List (den seg)) (a1 : Int) : Option (Int) := F18_T k a0 a1 (fun x1_0 x5_0 => F18_l0 k a0 a1 k x1_0 x5_0)
theorem F18_st {β : Type} (k : Nat) (a0 : List (den seg)) (a1 : Int) (K : A × List (List Leaf) → Option β) : evalF (F18_E k) Try.f18 (F18_a a0 a1) K =
    F18_T k a0 a1 (fun x1_0 x5_0 => loopG (F18_E k) Try.f18 [1, 0, 1, 0] 0 (kontAt (F18_E k) [1, 0, 1, 0] (bodyOf Try.f18) 0 (endC (F18_E k) Try.f18 (F18_a a0 a1) K)) k (F18_s0 a0 a1 x1_0 x5_0)) := by kernel_rfl
theorem F18_ev {β : Type} (k : Nat) (a0 : List (den seg)) (a1 : Int) (K : A × List (List Leaf) → Option β) : evalF (F18_E k) Try.f18 (F18_a a0 a1) K = (F18 k a0 a1).bind fun r => K (F18_r r) := by
  rw [F18_st, F18]
  simp only [F18_T, bind_cond, Option.bind_assoc, Option.bind_some, Option.bind_none, Option.bind_fun_some, F18_l0_lp]
theorem F18_tOk (k : Nat) : TabFn Try.prog (F18_t k) := .ent (F45_q k) F45_f (.ent (F46_q k) F46_f (.none))
theorem F18_con (k : Nat) (a0 : List (den seg)) (a1 : Int) : Contract Try.prog 18 (F18_a a0 a1) ⟨F18 k a0 a1, F18_r⟩ := con_of (envOk (F18_tOk k) _ _ _ _) mixed Try.func18 rfl rfl (F18_ev k a0 a1 some)
def F18_sh : List AK := [.one (.l (.sl .ro seg)), .one (.l (.int .i64))]
def F18_p (k : Nat) : List Arg → Option CR := cle F18_sh fun x => ⟨F18 k x.1 x.2.1, F18_r⟩
theorem F18_q (k : Nat) : ∀ xs cr, F18_p k xs = some cr → Contract Try.prog 18 xs cr := cle_ok fun x => F18_con k _ _
theorem F18_f : FnOk Try.prog 18 := .of (by kernel_rfl)
/-! 4: loop.example/netstack/laws.FnExactSegmentsJoined -/
def F4_t (k : Nat) : Tab := entT 14 (F14_p k) <| entT 15 (F15_p k) <| entT 8 (F8_p k) <| entT 6 (F6_p k) <| entT 16 (F16_p k) <| entT 17 (F17_p k) <| entT 18 (F18_p k) <| noTab
abbrev F4_E (k : Nat) : Env := env (F4_t k) noHint .own [] k
abbrev F4_a (a0 : List (den seg)) : List Arg := [.one (.l (.s .ro seg a0))]
def F4_r (r : Bool) : A × List (List Leaf) := (.one (.v (.bool r)), [])
def F4_T {β : Type} (k : Nat) (a0 : List (den seg)) (RET : Bool → Option β) : Option β := (F14 k a0 1048576).bind fun b1 => cond (decide (b1 < 0)) (RET true) ((F15 k a0).bind fun b2 => (F8 k b2).bind fun b3 => (F15 k a0).bind fun b4 => (F6 k b4).bind fun b5 => (F16 k b5 b3).bind fun b6 => cond (!b6) (RET false) ((F15 k a0).bind fun b7 => (F16 k b4 b7).bind fun b8 => cond (!b8) (RET false) ((F17 k b4 1).bind fun b9 => cond (decide (b9.1 < 0)) (RET false) ((F16 k b5 b3).bind fun b10 => cond (!b10) (RET false) ((F17 k b5 1).bind fun b11 => (F18 k b11.2 1).bind fun b12 => cond (decide (b12 < 0)) (RET false) (cond (b12 != b11.1) (RET false) ((F15 k a0).bind fun b13 => (F6 k b13).bind fun b14 => (F16 k b14 b3).bind fun b15 => cond (!b15) (RET false) ((F18 k b11.2 1).bind fun b16 => cond (decide (b16 < 0)) (RET false) (cond (b16 != b11.1) (RET false) (RET true))))))))))
def F4 (k : Nat) (a0 : List (den seg)) : Option (Bool) := F4_T k a0 some
theorem F4_st {β : Type} (k : Nat) (a0 : List (den seg)) (K : A × List (List Leaf) → Option β) : evalF (F4_E k) Try.f4 (F4_a a0) K =
    F4_T k a0 (fun r => K (F4_r r)) := by kernel_rfl
theorem F4_ev {β : Type} (k : Nat) (a0 : List (den seg)) (K : A × List (List Leaf) → Option β) : evalF (F4_E k) Try.f4 (F4_a a0) K = (F4 k a0).bind fun r => K (F4_r r) := by
  rw [F4_st, F4]
  simp only [F4_T, bind_cond, Option.bind_assoc, Option.bind_some, Option.bind_none, Option.bind_fun_some]
theorem F4_tOk (k : Nat) : TabFn Try.prog (F4_t k) := .ent (F14_q k) F14_f (.ent (F15_q k) F15_f (.ent (F8_q k) F8_f (.ent (F6_q k) F6_f (.ent (F16_q k) F16_f (.ent (F17_q k) F17_f (.ent (F18_q k) F18_f (.none)))))))
theorem F4_con (k : Nat) (a0 : List (den seg)) : Contract Try.prog 4 (F4_a a0) ⟨F4 k a0, F4_r⟩ := con_of (envOk (F4_tOk k) _ _ _ _) mixed Try.func4 rfl rfl (F4_ev k a0 some)
def F4_sh : List AK := [.one (.l (.sl .ro seg))]
def F4_p (k : Nat) : List Arg → Option CR := cle F4_sh fun x => ⟨F4 k x.1, F4_r⟩
theorem F4_q (k : Nat) : ∀ xs cr, F4_p k xs = some cr → Contract Try.prog 4 xs cr := cle_ok fun x => F4_con k _
theorem F4_f : FnOk Try.prog 4 := .of (by kernel_rfl)
end Go.Proofs.Ytamlndedbnkbmaa.Gn
end
