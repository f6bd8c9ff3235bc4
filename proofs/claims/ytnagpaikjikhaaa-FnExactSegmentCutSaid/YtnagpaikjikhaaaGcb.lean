/-
  The functions that the law reaches, as plain Lean functions, and their contracts. (A part of the proofs of this seat.)
-/
import Derived.Test.YtnagpaikjikhaaaChecked
import Derived.Test.YtnagpaikjikhaaaRc
import Derived.Test.YtnagpaikjikhaaaGca
import Derived.KernelRfl

section
set_option linter.unusedVariables false
set_option linter.unusedSimpArgs false
/-
  The functions that the laws over cut segments reach, as plain functions (printed by rfgen.py).
-/
namespace Go.Proofs.Ytnagpaikjikhaaa.Gn
open Go.Rf
abbrev rng : Ty := (.pair (.int .i64) (.int .i64))
abbrev seg : Ty := (.pair (.int .i64) (.pair (.int .i64) (.pair (.int .i64) (.pair (.int .i64) (.pair (.int .i64) (.pair .bool (.pair .bool (.pair .bool (.pair .bool (.pair (.sl rng) (.sl (.int .u8))))))))))))
def tyT : List (Nat × TyI) := [(3, ⟨(.int .i64), false, 0⟩), (4, ⟨.bool, false, 0⟩), (5, ⟨(.int .u8), false, 0⟩), (22, ⟨(.sl (.int .u8)), false, 1⟩), (23, ⟨(.sl rng), false, 16⟩), (25, ⟨seg, true, 0⟩), (28, ⟨(.sl seg), false, 96⟩), (41, ⟨(.sl rng), false, 16⟩), (43, ⟨seg, true, 0⟩), (75, ⟨rng, true, 0⟩), (105, ⟨rng, true, 0⟩)]
def fldT : FldT := [(25, [(0, 1, false), (1, 1, false), (2, 1, false), (3, 1, false), (4, 1, false), (5, 1, false), (6, 1, false), (7, 1, false), (8, 1, false), (9, 1, false), (10, 1, false)]), (43, [(0, 1, false), (1, 1, false), (2, 1, false), (3, 1, false), (4, 1, false), (5, 1, false), (6, 1, false), (7, 1, false), (8, 1, false), (9, 1, false), (10, 1, false)]), (75, [(0, 1, false), (1, 1, false)]), (105, [(0, 1, false), (1, 1, false)])]
def eqT : List Nat := []
def env (tab : Tab) (hint : Nat → Hint) (rm : Rf.Mode) (pins : List (Bool × Nat)) (k : Nat) : Env :=
  { tab := tab, lend := (fun f => cond (Nat.beq f 114) [true] (cond (Nat.beq f 113) [true] (cond (Nat.beq f 49) [true] ([])))), lent := (fun f => cond (Nat.beq f 26) [true] (cond (Nat.beq f 27) [true] (cond (Nat.beq f 32) [true] (cond (Nat.beq f 69) [true] ([]))))), pins := pins, ty := asc tyT, fld := fldOf fldT, pw := fun _ => none, cw := fun _ => [], hint := hint, eqt := hasK eqT, rm := rm, fuel := k, itr := [(47, 89, (.int .u8))] }
theorem tyOk : AllT (TyOk Try.prog) tyT :=
  ⟨.ofInt (b := 8) (by kernel_rfl) (by kernel_rfl), .ofBool (b := 1) (by kernel_rfl) (by kernel_rfl), .ofInt (b := 1) (by kernel_rfl) (by kernel_rfl), .ofSl (te := 5) (b := 24) (by kernel_rfl) (by kernel_rfl) (by kernel_rfl) (fun _ h => by cases h; kernel_rfl), .ofSl (te := 75) (b := 24) (by kernel_rfl) (by kernel_rfl) (by kernel_rfl) nofun, .ofAgg (b := 96) (by kernel_rfl) (by kernel_rfl), .ofSl (te := 25) (b := 24) (by kernel_rfl) (by kernel_rfl) (by kernel_rfl) nofun, .ofSl (te := 105) (b := 24) (by kernel_rfl) (by kernel_rfl) (by kernel_rfl) nofun, .ofAgg (b := 96) (by kernel_rfl) (by kernel_rfl), .ofAgg (b := 16) (by kernel_rfl) (by kernel_rfl), .ofAgg (b := 16) (by kernel_rfl) (by kernel_rfl), trivial⟩
theorem fldOk : AllF Try.prog fldT :=
  ⟨⟨⟨by kernel_rfl, by kernel_rfl⟩, ⟨by kernel_rfl, by kernel_rfl⟩, ⟨by kernel_rfl, by kernel_rfl⟩, ⟨by kernel_rfl, by kernel_rfl⟩, ⟨by kernel_rfl, by kernel_rfl⟩, ⟨by kernel_rfl, by kernel_rfl⟩, ⟨by kernel_rfl, by kernel_rfl⟩, ⟨by kernel_rfl, by kernel_rfl⟩, ⟨by kernel_rfl, by kernel_rfl⟩, ⟨by kernel_rfl, by kernel_rfl⟩, ⟨by kernel_rfl, by kernel_rfl⟩, trivial⟩, ⟨⟨by kernel_rfl, by kernel_rfl⟩, ⟨by kernel_rfl, by kernel_rfl⟩, ⟨by kernel_rfl, by kernel_rfl⟩, ⟨by kernel_rfl, by kernel_rfl⟩, ⟨by kernel_rfl, by kernel_rfl⟩, ⟨by kernel_rfl, by kernel_rfl⟩, ⟨by kernel_rfl, by kernel_rfl⟩, ⟨by kernel_rfl, by kernel_rfl⟩, ⟨by kernel_rfl, by kernel_rfl⟩, ⟨by kernel_rfl, by kernel_rfl⟩, ⟨by kernel_rfl, by kernel_rfl⟩, trivial⟩, ⟨⟨by kernel_rfl, by kernel_rfl⟩, ⟨by kernel_rfl, by kernel_rfl⟩, trivial⟩, ⟨⟨by kernel_rfl, by kernel_rfl⟩, ⟨by kernel_rfl, by kernel_rfl⟩, trivial⟩, trivial⟩
theorem mixed : Try.prog.follows .mixedOrders = true := by kernel_rfl
theorem bldOk : AllT (fun t i => i.agg = true → BldOk Try.prog t (fldOf fldT t)) tyT :=
  ⟨nofun, nofun, nofun, nofun, nofun, fun _ => bld_of (row := [(0, 1, false), (1, 1, false), (2, 1, false), (3, 1, false), (4, 1, false), (5, 1, false), (6, 1, false), (7, 1, false), (8, 1, false), (9, 1, false), (10, 1, false)]) rfl (by kernel_rfl) (by kernel_rfl), nofun, nofun, fun _ => bld_of (row := [(0, 1, false), (1, 1, false), (2, 1, false), (3, 1, false), (4, 1, false), (5, 1, false), (6, 1, false), (7, 1, false), (8, 1, false), (9, 1, false), (10, 1, false)]) rfl (by kernel_rfl) (by kernel_rfl), fun _ => bld_of (row := [(0, 1, false), (1, 1, false)]) rfl (by kernel_rfl) (by kernel_rfl), fun _ => bld_of (row := [(0, 1, false), (1, 1, false)]) rfl (by kernel_rfl) (by kernel_rfl), trivial⟩
theorem eqOkT : AllT (fun t i => hasK eqT t = true → EqOk Try.prog t i.ty) tyT :=
  ⟨fun h => absurd h (by decide), fun h => absurd h (by decide), fun h => absurd h (by decide), fun h => absurd h (by decide), fun h => absurd h (by decide), fun h => absurd h (by decide), fun h => absurd h (by decide), fun h => absurd h (by decide), fun h => absurd h (by decide), fun h => absurd h (by decide), fun h => absurd h (by decide), trivial⟩
theorem tysOk (tab : Tab) (hint : Nat → Hint) (rm : Rf.Mode) (pins : List (Bool × Nat)) (k : Nat) : TysOk Try.prog (env tab hint rm pins k) :=
  ⟨fun t i h => tyOk.get h, fun s f z h => fldOk.get h, fun t i h => bldOk.get h, fun t i h h2 => eqOkT.get h2 h, fun z hz => by obtain rfl := List.mem_singleton.1 hz; exact ⟨It.mkOk, It.itOk⟩⟩
theorem envOk {tab : Tab} (h : TabFn Try.prog tab) (hint : Nat → Hint) (rm : Rf.Mode) (pins : List (Bool × Nat)) (k : Nat) : EnvOk Try.prog (env tab hint rm pins k) := EnvOk.of (tysOk tab hint rm pins k) h
def noTab : Tab := fun _ _ => none
def noHint : Nat → Hint := fun _ => ⟨[], []⟩
/-! 65: loop.example/netstack/laws.szRangeS -/
abbrev F65_E (k : Nat) : Env := env noTab noHint .own [] k
abbrev F65_a (a0 : List (den rng)) (a1 : Int) : List Arg := [.one (.l (.s .ro rng a0)), .one (.l (.v (.int .i64 a1)))]
def F65_r (r : Int) : A × List (List Leaf) := (.one (.v (.int .i64 r)), [])
def F65_T {β : Type} (k : Nat) (a0 : List (den rng)) (a1 : Int) (RET : Int → Option β) : Option β := cond (decide ((IntKind.i64.wrap (a1 - ((a0.length : Nat) : Int))) < 0)) (RET (-1)) (RET (IntKind.i64.wrap (a1 - ((a0.length : Nat) : Int))))
def F65 (k : Nat) (a0 : List (den rng)) (a1 : Int) : Option (Int) := F65_T k a0 a1 some
theorem F65_st {β : Type} (k : Nat) (a0 : List (den rng)) (a1 : Int) (K : A × List (List Leaf) → Option β) : evalF (F65_E k) Try.f65 (F65_a a0 a1) K =
    F65_T k a0 a1 (fun r => K (F65_r r)) := by kernel_rfl
theorem F65_ev {β : Type} (k : Nat) (a0 : List (den rng)) (a1 : Int) (K : A × List (List Leaf) → Option β) : evalF (F65_E k) Try.f65 (F65_a a0 a1) K = (F65 k a0 a1).bind fun r => K (F65_r r) := by
  rw [F65_st, F65]
  simp only [F65_T, bind_cond, Option.bind_assoc, Option.bind_some, Option.bind_none, Option.bind_fun_some]
theorem F65_con (k : Nat) (a0 : List (den rng)) (a1 : Int) : Contract Try.prog 65 (F65_a a0 a1) ⟨F65 k a0 a1, F65_r⟩ := con_of (envOk .none _ _ _ _) mixed Try.func65 rfl rfl (F65_ev k a0 a1 some)
def F65_sh : List AK := [.one (.l (.sl .ro rng)), .one (.l (.int .i64))]
def F65_p (k : Nat) : List Arg → Option CR := cle F65_sh fun x => ⟨F65 k x.1 x.2.1, F65_r⟩
theorem F65_q (k : Nat) : ∀ xs cr, F65_p k xs = some cr → Contract Try.prog 65 xs cr := cle_ok fun x => F65_con k _ _
theorem F65_f : FnOk Try.prog 65 := .of (by kernel_rfl)
/-! 66: loop.example/netstack/laws.szByteS -/
abbrev F66_E (k : Nat) : Env := env noTab noHint .own [] k
abbrev F66_a (a0 : List (den (.int .u8))) (a1 : Int) : List Arg := [.one (.l (.s .ro (.int .u8) a0)), .one (.l (.v (.int .i64 a1)))]
def F66_r (r : Int) : A × List (List Leaf) := (.one (.v (.int .i64 r)), [])
def F66_T {β : Type} (k : Nat) (a0 : List (den (.int .u8))) (a1 : Int) (RET : Int → Option β) : Option β := cond (decide ((IntKind.i64.wrap (a1 - ((a0.length : Nat) : Int))) < 0)) (RET (-1)) (RET (IntKind.i64.wrap (a1 - ((a0.length : Nat) : Int))))
def F66 (k : Nat) (a0 : List (den (.int .u8))) (a1 : Int) : Option (Int) := F66_T k a0 a1 some
theorem F66_st {β : Type} (k : Nat) (a0 : List (den (.int .u8))) (a1 : Int) (K : A × List (List Leaf) → Option β) : evalF (F66_E k) Try.f66 (F66_a a0 a1) K =
    F66_T k a0 a1 (fun r => K (F66_r r)) := by kernel_rfl
theorem F66_ev {β : Type} (k : Nat) (a0 : List (den (.int .u8))) (a1 : Int) (K : A × List (List Leaf) → Option β) : evalF (F66_E k) Try.f66 (F66_a a0 a1) K = (F66 k a0 a1).bind fun r => K (F66_r r) := by
  rw [F66_st, F66]
  simp only [F66_T, bind_cond, Option.bind_assoc, Option.bind_some, Option.bind_none, Option.bind_fun_some]
theorem F66_con (k : Nat) (a0 : List (den (.int .u8))) (a1 : Int) : Contract Try.prog 66 (F66_a a0 a1) ⟨F66 k a0 a1, F66_r⟩ := con_of (envOk .none _ _ _ _) mixed Try.func66 rfl rfl (F66_ev k a0 a1 some)
def F66_sh : List AK := [.one (.l (.sl .ro (.int .u8))), .one (.l (.int .i64))]
def F66_p (k : Nat) : List Arg → Option CR := cle F66_sh fun x => ⟨F66 k x.1 x.2.1, F66_r⟩
theorem F66_q (k : Nat) : ∀ xs cr, F66_p k xs = some cr → Contract Try.prog 66 xs cr := cle_ok fun x => F66_con k _ _
theorem F66_f : FnOk Try.prog 66 := .of (by kernel_rfl)
/-! 22: loop.example/netstack/laws.szSegment -/
def F22_t (k : Nat) : Tab := entT 65 (F65_p k) <| entT 66 (F66_p k) <| noTab
abbrev F22_E (k : Nat) : Env := env (F22_t k) noHint .own [] k
abbrev F22_a (a0_0 a0_1 a0_2 a0_3 a0_4 : Int) (a0_5 a0_6 a0_7 a0_8 : Bool) (a0_9 : List (den rng)) (a0_10 : List (den (.int .u8))) (a1 : Int) : List Arg := [.agg [.l (.v (.int .i64 a0_0)), .l (.v (.int .i64 a0_1)), .l (.v (.int .i64 a0_2)), .l (.v (.int .i64 a0_3)), .l (.v (.int .i64 a0_4)), .l (.v (.bool a0_5)), .l (.v (.bool a0_6)), .l (.v (.bool a0_7)), .l (.v (.bool a0_8)), .l (.s .ro rng a0_9), .l (.s .ro (.int .u8) a0_10)], .one (.l (.v (.int .i64 a1)))]
def F22_r (r : Int) : A × List (List Leaf) := (.one (.v (.int .i64 r)), [])
def F22_T {β : Type} (k : Nat) (a0_0 a0_1 a0_2 a0_3 a0_4 : Int) (a0_5 a0_6 a0_7 a0_8 : Bool) (a0_9 : List (den rng)) (a0_10 : List (den (.int .u8))) (a1 : Int) (RET : Int → Option β) : Option β := (F65 k a0_9 a1).bind fun b1 => cond (decide (b1 < 0)) (RET (-1)) ((F66 k a0_10 b1).bind fun b2 => cond (decide (b2 < 0)) (RET (-1)) (RET b2))
def F22 (k : Nat) (a0_0 a0_1 a0_2 a0_3 a0_4 : Int) (a0_5 a0_6 a0_7 a0_8 : Bool) (a0_9 : List (den rng)) (a0_10 : List (den (.int .u8))) (a1 : Int) : Option (Int) := F22_T k a0_0 a0_1 a0_2 a0_3 a0_4 a0_5 a0_6 a0_7 a0_8 a0_9 a0_10 a1 some
theorem F22_st {β : Type} (k : Nat) (a0_0 a0_1 a0_2 a0_3 a0_4 : Int) (a0_5 a0_6 a0_7 a0_8 : Bool) (a0_9 : List (den rng)) (a0_10 : List (den (.int .u8))) (a1 : Int) (K : A × List (List Leaf) → Option β) : evalF (F22_E k) Try.f22 (F22_a a0_0 a0_1 a0_2 a0_3 a0_4 a0_5 a0_6 a0_7 a0_8 a0_9 a0_10 a1) K =
    F22_T k a0_0 a0_1 a0_2 a0_3 a0_4 a0_5 a0_6 a0_7 a0_8 a0_9 a0_10 a1 (fun r => K (F22_r r)) := by kernel_rfl
theorem F22_ev {β : Type} (k : Nat) (a0_0 a0_1 a0_2 a0_3 a0_4 : Int) (a0_5 a0_6 a0_7 a0_8 : Bool) (a0_9 : List (den rng)) (a0_10 : List (den (.int .u8))) (a1 : Int) (K : A × List (List Leaf) → Option β) : evalF (F22_E k) Try.f22 (F22_a a0_0 a0_1 a0_2 a0_3 a0_4 a0_5 a0_6 a0_7 a0_8 a0_9 a0_10 a1) K = (F22 k a0_0 a0_1 a0_2 a0_3 a0_4 a0_5 a0_6 a0_7 a0_8 a0_9 a0_10 a1).bind fun r => K (F22_r r) := by
  rw [F22_st, F22]
  simp only [F22_T, bind_cond, Option.bind_assoc, Option.bind_some, Option.bind_none, Option.bind_fun_some]
theorem F22_tOk (k : Nat) : TabFn Try.prog (F22_t k) := .ent (F65_q k) F65_f (.ent (F66_q k) F66_f (.none))
theorem F22_con (k : Nat) (a0_0 a0_1 a0_2 a0_3 a0_4 : Int) (a0_5 a0_6 a0_7 a0_8 : Bool) (a0_9 : List (den rng)) (a0_10 : List (den (.int .u8))) (a1 : Int) : Contract Try.prog 22 (F22_a a0_0 a0_1 a0_2 a0_3 a0_4 a0_5 a0_6 a0_7 a0_8 a0_9 a0_10 a1) ⟨F22 k a0_0 a0_1 a0_2 a0_3 a0_4 a0_5 a0_6 a0_7 a0_8 a0_9 a0_10 a1, F22_r⟩ := con_of (envOk (F22_tOk k) _ _ _ _) mixed Try.func22 rfl rfl (F22_ev k a0_0 a0_1 a0_2 a0_3 a0_4 a0_5 a0_6 a0_7 a0_8 a0_9 a0_10 a1 some)
def F22_sh : List AK := [.agg [.l (.int .i64), .l (.int .i64), .l (.int .i64), .l (.int .i64), .l (.int .i64), .l (.bool), .l (.bool), .l (.bool), .l (.bool), .l (.sl .ro rng), .l (.sl .ro (.int .u8))], .one (.l (.int .i64))]
def F22_p (k : Nat) : List Arg → Option CR := cle F22_sh fun x => ⟨F22 k x.1.1 x.1.2.1 x.1.2.2.1 x.1.2.2.2.1 x.1.2.2.2.2.1 x.1.2.2.2.2.2.1 x.1.2.2.2.2.2.2.1 x.1.2.2.2.2.2.2.2.1 x.1.2.2.2.2.2.2.2.2.1 x.1.2.2.2.2.2.2.2.2.2.1 x.1.2.2.2.2.2.2.2.2.2.2.1 x.2.1, F22_r⟩
theorem F22_q (k : Nat) : ∀ xs cr, F22_p k xs = some cr → Contract Try.prog 22 xs cr := cle_ok fun x => F22_con k _ _ _ _ _ _ _ _ _ _ _ _
theorem F22_f : FnOk Try.prog 22 := .of (by kernel_rfl)
/-! 93: loop.example/netstack/laws.toRange -/
abbrev F93_E (k : Nat) : Env := env noTab noHint .own [] k
abbrev F93_a (a0_0 a0_1 : Int) : List Arg := [.agg [.l (.v (.int .i64 a0_0)), .l (.v (.int .i64 a0_1))]]
def F93_r (r : Int × Int) : A × List (List Leaf) := (.agg [.v (.int .i64 r.1), .v (.int .i64 r.2)], [])
def F93 (k : Nat) (a0_0 a0_1 : Int) : Option (Int × Int) := some (a0_0, a0_1)
theorem F93_st {β : Type} (k : Nat) (a0_0 a0_1 : Int) (K : A × List (List Leaf) → Option β) : evalF (F93_E k) Try.f93 (F93_a a0_0 a0_1) K =
    K (.agg [.v (.int .i64 a0_0), .v (.int .i64 a0_1)], []) := by kernel_rfl
theorem F93_ev {β : Type} (k : Nat) (a0_0 a0_1 : Int) (K : A × List (List Leaf) → Option β) : evalF (F93_E k) Try.f93 (F93_a a0_0 a0_1) K = (F93 k a0_0 a0_1).bind fun r => K (F93_r r) := by
  rw [F93_st, F93]
  simp only [F93_r, bind_cond, Option.bind_assoc, Option.bind_some, Option.bind_none, Option.bind_fun_some]
theorem F93_con (k : Nat) (a0_0 a0_1 : Int) : Contract Try.prog 93 (F93_a a0_0 a0_1) ⟨F93 k a0_0 a0_1, F93_r⟩ := con_of (envOk .none _ _ _ _) mixed Try.func93 rfl rfl (F93_ev k a0_0 a0_1 some)
def F93_sh : List AK := [.agg [.l (.int .i64), .l (.int .i64)]]
def F93_p (k : Nat) : List Arg → Option CR := cle F93_sh fun x => ⟨F93 k x.1.1 x.1.2.1, F93_r⟩
theorem F93_q (k : Nat) : ∀ xs cr, F93_p k xs = some cr → Contract Try.prog 93 xs cr := cle_ok fun x => F93_con k _ _
theorem F93_f : FnOk Try.prog 93 := .of (by kernel_rfl)
/-! 67: loop.example/netstack/laws.toRangeS -/
def F67_h : Nat → Hint
  | 0 => ⟨[(0, .plain), (3, .plain), (4, .plain)], [(7000, .plain)]⟩
  | _ => ⟨[], []⟩
def F67_t (k : Nat) : Tab := entT 93 (F93_p k) <| noTab
abbrev F67_E (k : Nat) : Env := env (F67_t k) F67_h .own [] k
abbrev F67_a (a0 : List (den rng)) : List Arg := [.one (.l (.s .ro rng a0))]
def F67_r (r : List (den rng)) : A × List (List Leaf) := (.one (.s .own rng r), [])
def F67_s0 (a0 : List (den rng)) (x4_0 : Int) (m7000_0 : List (den rng)) : St := ⟨(.one (.s .ro rng a0)) :: (.one .d) :: (.one .d) :: (.one (.a (.cell 7000) 0 0 none)) :: (.one (.v (.int .i64 x4_0))) :: dz 18 [], [(7000, ⟨.s .own rng m7000_0, 0, 0⟩)]⟩
def F67_l0_T {β : Type} (k : Nat) (a0 : List (den rng)) (NX : Int → List (den rng) → Option β) (RET : List (den rng) → Option β) (x4_0 : Int) (m7000_0 : List (den rng)) : Option β := cond (decide (x4_0 < ((a0.length : Nat) : Int))) (cond (decide (0 ≤ x4_0)) (cond (decide (x4_0 < ((a0.length : Nat) : Int))) ((F93 k ((atI a0 x4_0).1) ((atI a0 x4_0).2)).bind fun b1 => cond (decide (0 ≤ x4_0)) (cond (decide (x4_0 < ((m7000_0.length : Nat) : Int))) (NX (IntKind.i64.wrap (x4_0 + 1)) (m7000_0.set x4_0.toNat b1)) none) none) none) none) (RET m7000_0)
def F67_l0 (k : Nat) (a0 : List (den rng)) : Nat → Int → List (den rng) → Option (List (den rng))
  | 0, _, _ => none
  | n + 1, x4_0, m7000_0 => F67_l0_T k a0 (fun x4_0 m7000_0 => F67_l0 k a0 n x4_0 m7000_0) some x4_0 m7000_0
theorem F67_l0_rd {β : Type} (k n : Nat) (a0 : List (den rng)) (x4_0 : Int) (m7000_0 : List (den rng)) (K : A × List (List Leaf) → Option β) :
    loopG (F67_E k) Try.f67 [1, 1, 0, 1, 0] 0 (kontAt (F67_E k) [1, 1, 0, 1, 0] (bodyOf Try.f67) 0 (endC (F67_E k) Try.f67 (F67_a a0) K)) (n + 1) (F67_s0 a0 x4_0 m7000_0) =
    F67_l0_T k a0 (fun x4_0 m7000_0 => loopG (F67_E k) Try.f67 [1, 1, 0, 1, 0] 0 (kontAt (F67_E k) [1, 1, 0, 1, 0] (bodyOf Try.f67) 0 (endC (F67_E k) Try.f67 (F67_a a0) K)) n (F67_s0 a0 x4_0 m7000_0)) (fun r => K (F67_r r)) x4_0 m7000_0 := by kernel_rfl
theorem F67_l0_lp {β : Type} (k : Nat) (a0 : List (den rng)) (K : A × List (List Leaf) → Option β) (n : Nat) : ∀ (x4_0 : Int) (m7000_0 : List (den rng)), loopG (F67_E k) Try.f67 [1, 1, 0, 1, 0] 0 (kontAt (F67_E k) [1, 1, 0, 1, 0] (bodyOf Try.f67) 0 (endC (F67_E k) Try.f67 (F67_a a0) K)) n (F67_s0 a0 x4_0 m7000_0) =
    (F67_l0 k a0 n x4_0 m7000_0).bind fun r => K (F67_r r) := by
  induction n with
  | zero => intros; rfl
  | succ n ih =>
    intros
    rw [F67_l0_rd, F67_l0]
    simp only [F67_l0_T, bind_cond, Option.bind_assoc, Option.bind_some, Option.bind_none, Option.bind_fun_some, ih]
def F67_T {β : Type} (k : Nat) (a0 : List (den rng)) (LP0 : Int → List (den rng) → Option β) : Option β := cond (decide (0 ≤ ((a0.length : Nat) : Int)) && decide (((a0.length : Nat) : Int) = ((a0.length : Nat) : Int)) && decide (((a0.length : Nat) : Int) * (16 : Nat) ≤ 140737488355328)) (LP0 0 (List.replicate (((a0.length : Nat) : Int).toNat) (dflt rng))) none
def F67 (k : Nat) (a0 : List (den rng)) : Option (List (den rng)) := F67_T k a0 (fun x4_0 m7000_0 => F67_l0 k a0 k x4_0 m7000_0)
theorem F67_st {β : Type} (k : Nat) (a0 : List (den rng)) (K : A × List (List Leaf) → Option β) : evalF (F67_E k) Try.f67 (F67_a a0) K =
    F67_T k a0 (fun x4_0 m7000_0 => loopG (F67_E k) Try.f67 [1, 1, 0, 1, 0] 0 (kontAt (F67_E k) [1, 1, 0, 1, 0] (bodyOf Try.f67) 0 (endC (F67_E k) Try.f67 (F67_a a0) K)) k (F67_s0 a0 x4_0 m7000_0)) := by kernel_rfl
theorem F67_ev {β : Type} (k : Nat) (a0 : List (den rng)) (K : A × List (List Leaf) → Option β) : evalF (F67_E k) Try.f67 (F67_a a0) K = (F67 k a0).bind fun r => K (F67_r r) := by
  rw [F67_st, F67]
  simp only [F67_T, bind_cond, Option.bind_assoc, Option.bind_some, Option.bind_none, Option.bind_fun_some, F67_l0_lp]
theorem F67_tOk (k : Nat) : TabFn Try.prog (F67_t k) := .ent (F93_q k) F93_f (.none)
theorem F67_con (k : Nat) (a0 : List (den rng)) : Contract Try.prog 67 (F67_a a0) ⟨F67 k a0, F67_r⟩ := con_of (envOk (F67_tOk k) _ _ _ _) mixed Try.func67 rfl rfl (F67_ev k a0 some)
def F67_sh : List AK := [.one (.l (.sl .ro rng))]
def F67_p (k : Nat) : List Arg → Option CR := cle F67_sh fun x => ⟨F67 k x.1, F67_r⟩
theorem F67_q (k : Nat) : ∀ xs cr, F67_p k xs = some cr → Contract Try.prog 67 xs cr := cle_ok fun x => F67_con k _
theorem F67_f : FnOk Try.prog 67 := .of (by kernel_rfl)
/-! 38: loop.example/netstack/laws.toByteS -/
def F38_h : Nat → Hint
  | 0 => ⟨[(0, .plain), (3, .plain), (4, .plain)], [(7000, .plain)]⟩
  | _ => ⟨[], []⟩
abbrev F38_E (k : Nat) : Env := env noTab F38_h .own [] k
abbrev F38_a (a0 : List (den (.int .u8))) : List Arg := [.one (.l (.s .ro (.int .u8) a0))]
def F38_r (r : List (den (.int .u8))) : A × List (List Leaf) := (.one (.s .own (.int .u8) r), [])
def F38_s0 (a0 : List (den (.int .u8))) (x4_0 : Int) (m7000_0 : List (den (.int .u8))) : St := ⟨(.one (.s .ro (.int .u8) a0)) :: (.one .d) :: (.one .d) :: (.one (.a (.cell 7000) 0 0 none)) :: (.one (.v (.int .i64 x4_0))) :: dz 17 [], [(7000, ⟨.s .own (.int .u8) m7000_0, 0, 0⟩)]⟩
def F38_l0_T {β : Type} (k : Nat) (a0 : List (den (.int .u8))) (NX : Int → List (den (.int .u8)) → Option β) (RET : List (den (.int .u8)) → Option β) (x4_0 : Int) (m7000_0 : List (den (.int .u8))) : Option β := cond (decide (x4_0 < ((a0.length : Nat) : Int))) (cond (decide (0 ≤ x4_0)) (cond (decide (x4_0 < ((a0.length : Nat) : Int))) (cond (decide (0 ≤ x4_0)) (cond (decide (x4_0 < ((m7000_0.length : Nat) : Int))) (NX (IntKind.i64.wrap (x4_0 + 1)) (m7000_0.set x4_0.toNat (atI a0 x4_0))) none) none) none) none) (RET m7000_0)
def F38_l0 (k : Nat) (a0 : List (den (.int .u8))) : Nat → Int → List (den (.int .u8)) → Option (List (den (.int .u8)))
  | 0, _, _ => none
  | n + 1, x4_0, m7000_0 => F38_l0_T k a0 (fun x4_0 m7000_0 => F38_l0 k a0 n x4_0 m7000_0) some x4_0 m7000_0
theorem F38_l0_rd {β : Type} (k n : Nat) (a0 : List (den (.int .u8))) (x4_0 : Int) (m7000_0 : List (den (.int .u8))) (K : A × List (List Leaf) → Option β) :
    loopG (F38_E k) Try.f38 [1, 1, 0, 1, 0] 0 (kontAt (F38_E k) [1, 1, 0, 1, 0] (bodyOf Try.f38) 0 (endC (F38_E k) Try.f38 (F38_a a0) K)) (n + 1) (F38_s0 a0 x4_0 m7000_0) =
    F38_l0_T k a0 (fun x4_0 m7000_0 => loopG (F38_E k) Try.f38 [1, 1, 0, 1, 0] 0 (kontAt (F38_E k) [1, 1, 0, 1, 0] (bodyOf Try.f38) 0 (endC (F38_E k) Try.f38 (F38_a a0) K)) n (F38_s0 a0 x4_0 m7000_0)) (fun r => K (F38_r r)) x4_0 m7000_0 := by kernel_rfl
theorem F38_l0_lp {β : Type} (k : Nat) (a0 : List (den (.int .u8))) (K : A × List (List Leaf) → Option β) (n : Nat) : ∀ (x4_0 : Int) (m7000_0 : List (den (.int .u8))), loopG (F38_E k) Try.f38 [1, 1, 0, 1, 0] 0 (kontAt (F38_E k) [1, 1, 0, 1, 0] (bodyOf Try.f38) 0 (endC (F38_E k) Try.f38 (F38_a a0) K)) n (F38_s0 a0 x4_0 m7000_0) =
    (F38_l0 k a0 n x4_0 m7000_0).bind fun r => K (F38_r r) := by
  induction n with
  | zero => intros; rfl
  | succ n ih =>
    intros
    rw [F38_l0_rd, F38_l0]
    simp only [F38_l0_T, bind_cond, Option.bind_assoc, Option.bind_some, Option.bind_none, Option.bind_fun_some, ih]
def F38_T {β : Type} (k : Nat) (a0 : List (den (.int .u8))) (LP0 : Int → List (den (.int .u8)) → Option β) : Option β := cond (decide (0 ≤ ((a0.length : Nat) : Int)) && decide (((a0.length : Nat) : Int) = ((a0.length : Nat) : Int)) && decide (((a0.length : Nat) : Int) * (1 : Nat) ≤ 140737488355328)) (LP0 0 (List.replicate (((a0.length : Nat) : Int).toNat) (dflt (.int .u8)))) none
def F38 (k : Nat) (a0 : List (den (.int .u8))) : Option (List (den (.int .u8))) := F38_T k a0 (fun x4_0 m7000_0 => F38_l0 k a0 k x4_0 m7000_0)
theorem F38_st {β : Type} (k : Nat) (a0 : List (den (.int .u8))) (K : A × List (List Leaf) → Option β) : evalF (F38_E k) Try.f38 (F38_a a0) K =
    F38_T k a0 (fun x4_0 m7000_0 => loopG (F38_E k) Try.f38 [1, 1, 0, 1, 0] 0 (kontAt (F38_E k) [1, 1, 0, 1, 0] (bodyOf Try.f38) 0 (endC (F38_E k) Try.f38 (F38_a a0) K)) k (F38_s0 a0 x4_0 m7000_0)) := by kernel_rfl
theorem F38_ev {β : Type} (k : Nat) (a0 : List (den (.int .u8))) (K : A × List (List Leaf) → Option β) : evalF (F38_E k) Try.f38 (F38_a a0) K = (F38 k a0).bind fun r => K (F38_r r) := by
  rw [F38_st, F38]
  simp only [F38_T, bind_cond, Option.bind_assoc, Option.bind_some, Option.bind_none, Option.bind_fun_some, F38_l0_lp]
theorem F38_con (k : Nat) (a0 : List (den (.int .u8))) : Contract Try.prog 38 (F38_a a0) ⟨F38 k a0, F38_r⟩ := con_of (envOk .none _ _ _ _) mixed Try.func38 rfl rfl (F38_ev k a0 some)
def F38_sh : List AK := [.one (.l (.sl .ro (.int .u8)))]
def F38_p (k : Nat) : List Arg → Option CR := cle F38_sh fun x => ⟨F38 k x.1, F38_r⟩
theorem F38_q (k : Nat) : ∀ xs cr, F38_p k xs = some cr → Contract Try.prog 38 xs cr := cle_ok fun x => F38_con k _
theorem F38_f : FnOk Try.prog 38 := .of (by kernel_rfl)
/-! 23: loop.example/netstack/laws.toSegment -/
def F23_t (k : Nat) : Tab := entT 67 (F67_p k) <| entT 38 (F38_p k) <| noTab
abbrev F23_E (k : Nat) : Env := env (F23_t k) noHint .own [] k
abbrev F23_a (a0_0 a0_1 a0_2 a0_3 a0_4 : Int) (a0_5 a0_6 a0_7 a0_8 : Bool) (a0_9 : List (den rng)) (a0_10 : List (den (.int .u8))) : List Arg := [.agg [.l (.v (.int .i64 a0_0)), .l (.v (.int .i64 a0_1)), .l (.v (.int .i64 a0_2)), .l (.v (.int .i64 a0_3)), .l (.v (.int .i64 a0_4)), .l (.v (.bool a0_5)), .l (.v (.bool a0_6)), .l (.v (.bool a0_7)), .l (.v (.bool a0_8)), .l (.s .ro rng a0_9), .l (.s .ro (.int .u8) a0_10)]]
def F23_r (r : Int × Int × Int × Int × Int × Bool × Bool × Bool × Bool × List (den rng) × List (den (.int .u8))) : A × List (List Leaf) := (.agg [.v (.int .i64 r.1), .v (.int .i64 r.2.1), .v (.int .i64 r.2.2.1), .v (.int .i64 r.2.2.2.1), .v (.int .i64 r.2.2.2.2.1), .v (.bool r.2.2.2.2.2.1), .v (.bool r.2.2.2.2.2.2.1), .v (.bool r.2.2.2.2.2.2.2.1), .v (.bool r.2.2.2.2.2.2.2.2.1), .s .own rng r.2.2.2.2.2.2.2.2.2.1, .s .own (.int .u8) r.2.2.2.2.2.2.2.2.2.2], [])
def F23_T {β : Type} (k : Nat) (a0_0 a0_1 a0_2 a0_3 a0_4 : Int) (a0_5 a0_6 a0_7 a0_8 : Bool) (a0_9 : List (den rng)) (a0_10 : List (den (.int .u8))) (RET : (Int × Int × Int × Int × Int × Bool × Bool × Bool × Bool × List (den rng) × List (den (.int .u8))) → Option β) : Option β := (F67 k a0_9).bind fun b1 => (F38 k a0_10).bind fun b2 => RET (a0_0, a0_1, a0_2, a0_3, a0_4, a0_5, a0_6, a0_7, a0_8, b1, b2)
def F23 (k : Nat) (a0_0 a0_1 a0_2 a0_3 a0_4 : Int) (a0_5 a0_6 a0_7 a0_8 : Bool) (a0_9 : List (den rng)) (a0_10 : List (den (.int .u8))) : Option (Int × Int × Int × Int × Int × Bool × Bool × Bool × Bool × List (den rng) × List (den (.int .u8))) := F23_T k a0_0 a0_1 a0_2 a0_3 a0_4 a0_5 a0_6 a0_7 a0_8 a0_9 a0_10 some
theorem F23_st {β : Type} (k : Nat) (a0_0 a0_1 a0_2 a0_3 a0_4 : Int) (a0_5 a0_6 a0_7 a0_8 : Bool) (a0_9 : List (den rng)) (a0_10 : List (den (.int .u8))) (K : A × List (List Leaf) → Option β) : evalF (F23_E k) Try.f23 (F23_a a0_0 a0_1 a0_2 a0_3 a0_4 a0_5 a0_6 a0_7 a0_8 a0_9 a0_10) K =
    F23_T k a0_0 a0_1 a0_2 a0_3 a0_4 a0_5 a0_6 a0_7 a0_8 a0_9 a0_10 (fun r => K (F23_r r)) := by kernel_rfl
theorem F23_ev {β : Type} (k : Nat) (a0_0 a0_1 a0_2 a0_3 a0_4 : Int) (a0_5 a0_6 a0_7 a0_8 : Bool) (a0_9 : List (den rng)) (a0_10 : List (den (.int .u8))) (K : A × List (List Leaf) → Option β) : evalF (F23_E k) Try.f23 (F23_a a0_0 a0_1 a0_2 a0_3 a0_4 a0_5 a0_6 a0_7 a0_8 a0_9 a0_10) K = (F23 k a0_0 a0_1 a0_2 a0_3 a0_4 a0_5 a0_6 a0_7 a0_8 a0_9 a0_10).bind fun r => K (F23_r r) := by
  rw [F23_st, F23]
  simp only [F23_T, bind_cond, Option.bind_assoc, Option.bind_some, Option.bind_none, Option.bind_fun_some]
theorem F23_tOk (k : Nat) : TabFn Try.prog (F23_t k) := .ent (F67_q k) F67_f (.ent (F38_q k) F38_f (.none))
theorem F23_con (k : Nat) (a0_0 a0_1 a0_2 a0_3 a0_4 : Int) (a0_5 a0_6 a0_7 a0_8 : Bool) (a0_9 : List (den rng)) (a0_10 : List (den (.int .u8))) : Contract Try.prog 23 (F23_a a0_0 a0_1 a0_2 a0_3 a0_4 a0_5 a0_6 a0_7 a0_8 a0_9 a0_10) ⟨F23 k a0_0 a0_1 a0_2 a0_3 a0_4 a0_5 a0_6 a0_7 a0_8 a0_9 a0_10, F23_r⟩ := con_of (envOk (F23_tOk k) _ _ _ _) mixed Try.func23 rfl rfl (F23_ev k a0_0 a0_1 a0_2 a0_3 a0_4 a0_5 a0_6 a0_7 a0_8 a0_9 a0_10 some)
def F23_sh : List AK := [.agg [.l (.int .i64), .l (.int .i64), .l (.int .i64), .l (.int .i64), .l (.int .i64), .l (.bool), .l (.bool), .l (.bool), .l (.bool), .l (.sl .ro rng), .l (.sl .ro (.int .u8))]]
def F23_p (k : Nat) : List Arg → Option CR := cle F23_sh fun x => ⟨F23 k x.1.1 x.1.2.1 x.1.2.2.1 x.1.2.2.2.1 x.1.2.2.2.2.1 x.1.2.2.2.2.2.1 x.1.2.2.2.2.2.2.1 x.1.2.2.2.2.2.2.2.1 x.1.2.2.2.2.2.2.2.2.1 x.1.2.2.2.2.2.2.2.2.2.1 x.1.2.2.2.2.2.2.2.2.2.2.1, F23_r⟩
theorem F23_q (k : Nat) : ∀ xs cr, F23_p k xs = some cr → Contract Try.prog 23 xs cr := cle_ok fun x => F23_con k _ _ _ _ _ _ _ _ _ _ _
theorem F23_f : FnOk Try.prog 23 := .of (by kernel_rfl)
/-! 51: loop.example/netstack/spec.l1In -/
abbrev F51_E (k : Nat) : Env := env noTab noHint .own [] k
abbrev F51_a (a0 a1 a2 : Int) : List Arg := [.one (.l (.v (.int .i64 a0))), .one (.l (.v (.int .i64 a1))), .one (.l (.v (.int .i64 a2)))]
def F51_r (r : Bool) : A × List (List Leaf) := (.one (.v (.bool r)), [])
def F51 (k : Nat) (a0 a1 a2 : Int) : Option (Bool) := cond (decide (a0 ≥ a1)) (some (decide (a0 ≤ a2))) (some false)
theorem F51_st {β : Type} (k : Nat) (a0 a1 a2 : Int) (K : A × List (List Leaf) → Option β) : evalF (F51_E k) Try.f51 (F51_a a0 a1 a2) K =
    cond (decide (a0 ≥ a1)) (K (.one (.v (.bool (decide (a0 ≤ a2)))), [])) (K (.one (.v (.bool false)), [])) := by kernel_rfl
theorem F51_ev {β : Type} (k : Nat) (a0 a1 a2 : Int) (K : A × List (List Leaf) → Option β) : evalF (F51_E k) Try.f51 (F51_a a0 a1 a2) K = (F51 k a0 a1 a2).bind fun r => K (F51_r r) := by
  rw [F51_st, F51]
  simp only [F51_r, bind_cond, Option.bind_assoc, Option.bind_some, Option.bind_none, Option.bind_fun_some]
theorem F51_con (k : Nat) (a0 a1 a2 : Int) : Contract Try.prog 51 (F51_a a0 a1 a2) ⟨F51 k a0 a1 a2, F51_r⟩ := con_of (envOk .none _ _ _ _) mixed Try.func51 rfl rfl (F51_ev k a0 a1 a2 some)
def F51_sh : List AK := [.one (.l (.int .i64)), .one (.l (.int .i64)), .one (.l (.int .i64))]
def F51_p (k : Nat) : List Arg → Option CR := cle F51_sh fun x => ⟨F51 k x.1 x.2.1 x.2.2.1, F51_r⟩
theorem F51_q (k : Nat) : ∀ xs cr, F51_p k xs = some cr → Contract Try.prog 51 xs cr := cle_ok fun x => F51_con k _ _ _
theorem F51_f : FnOk Try.prog 51 := .of (by kernel_rfl)
/-! 50: loop.example/netstack/spec.SegmentOk -/
def F50_h : Nat → Hint
  | 0 => ⟨[(1, .plain), (3, .plain)], [(1000, .plain), (1001, .plain), (1002, .plain), (1003, .plain), (1004, .plain), (1005, .plain), (1006, .plain), (1007, .plain), (1008, .plain), (1009, .plain), (1010, .plain)]⟩
  | _ => ⟨[], []⟩
def F50_t (k : Nat) : Tab := entT 51 (F51_p k) <| noTab
abbrev F50_E (k : Nat) : Env := env (F50_t k) F50_h .own [] k
abbrev F50_a (a0_0 a0_1 a0_2 a0_3 a0_4 : Int) (a0_5 a0_6 a0_7 a0_8 : Bool) (a0_9 : List (den rng)) (a0_10 : List (den (.int .u8))) : List Arg := [.agg [.l (.v (.int .i64 a0_0)), .l (.v (.int .i64 a0_1)), .l (.v (.int .i64 a0_2)), .l (.v (.int .i64 a0_3)), .l (.v (.int .i64 a0_4)), .l (.v (.bool a0_5)), .l (.v (.bool a0_6)), .l (.v (.bool a0_7)), .l (.v (.bool a0_8)), .l (.s .ro rng a0_9), .l (.s .ro (.int .u8) a0_10)]]
def F50_r (r : Bool) : A × List (List Leaf) := (.one (.v (.bool r)), [])
def F50_s0 (a0_0 a0_1 a0_2 a0_3 a0_4 : Int) (a0_5 a0_6 a0_7 a0_8 : Bool) (a0_9 : List (den rng)) (a0_10 : List (den (.int .u8))) (x3_0 : Int) : St := ⟨(.one .d) :: (.one (.ptr (.cell 1000) 11 0)) :: (.one .d) :: (.one (.v (.int .i64 x3_0))) :: dz 103 [], [(1000, ⟨.v (.int .i64 a0_0), 0, 0⟩), (1001, ⟨.v (.int .i64 a0_1), 0, 0⟩), (1002, ⟨.v (.int .i64 a0_2), 0, 0⟩), (1003, ⟨.v (.int .i64 a0_3), 0, 0⟩), (1004, ⟨.v (.int .i64 a0_4), 0, 0⟩), (1005, ⟨.v (.bool a0_5), 0, 0⟩), (1006, ⟨.v (.bool a0_6), 0, 0⟩), (1007, ⟨.v (.bool a0_7), 0, 0⟩), (1008, ⟨.v (.bool a0_8), 0, 0⟩), (1009, ⟨.s .ro rng a0_9, 0, 0⟩), (1010, ⟨.s .ro (.int .u8) a0_10, 0, 0⟩)]⟩
def F50_l0_T {β : Type} (k : Nat) (a0_0 a0_1 a0_2 a0_3 a0_4 : Int) (a0_5 a0_6 a0_7 a0_8 : Bool) (a0_9 : List (den rng)) (a0_10 : List (den (.int .u8))) (NX : Int → Option β) (RET : Bool → Option β) (x3_0 : Int) : Option β := cond (decide (x3_0 < ((a0_9.length : Nat) : Int))) (cond (decide (0 ≤ x3_0)) (cond (decide (x3_0 < ((a0_9.length : Nat) : Int))) ((F51 k ((atI a0_9 x3_0).1) 0 65535).bind fun b6 => cond (!b6) (RET false) (cond (decide (0 ≤ x3_0)) (cond (decide (x3_0 < ((a0_9.length : Nat) : Int))) ((F51 k ((atI a0_9 x3_0).2) 0 65535).bind fun b7 => cond (!b7) (RET false) (NX (IntKind.i64.wrap (x3_0 + 1)))) none) none)) none) none) (cond (!a0_6) (cond (a0_3 != 0) (RET false) (cond (a0_4 != 0) (RET false) (cond (decide (((a0_9.length : Nat) : Int) > 0)) (RET false) (cond (!a0_8) (RET true) (cond (!a0_5) (cond (!a0_7) (RET (((a0_10.length : Nat) : Int) == 0)) (RET false)) (RET false)))))) (cond (!a0_8) (RET true) (cond (!a0_5) (cond (!a0_7) (RET (((a0_10.length : Nat) : Int) == 0)) (RET false)) (RET false))))
def F50_l0 (k : Nat) (a0_0 a0_1 a0_2 a0_3 a0_4 : Int) (a0_5 a0_6 a0_7 a0_8 : Bool) (a0_9 : List (den rng)) (a0_10 : List (den (.int .u8))) : Nat → Int → Option (Bool)
  | 0, _ => none
  | n + 1, x3_0 => F50_l0_T k a0_0 a0_1 a0_2 a0_3 a0_4 a0_5 a0_6 a0_7 a0_8 a0_9 a0_10 (fun x3_0 => F50_l0 k a0_0 a0_1 a0_2 a0_3 a0_4 a0_5 a0_6 a0_7 a0_8 a0_9 a0_10 n x3_0) some x3_0
theorem F50_l0_rd {β : Type} (k n : Nat) (a0_0 a0_1 a0_2 a0_3 a0_4 : Int) (a0_5 a0_6 a0_7 a0_8 : Bool) (a0_9 : List (den rng)) (a0_10 : List (den (.int .u8))) (x3_0 : Int) (K : A × List (List Leaf) → Option β) :
    loopG (F50_E k) Try.f50 [1, 1, 0, 1, 0] 0 (kontAt (F50_E k) [1, 1, 0, 1, 0] (bodyOf Try.f50) 0 (endC (F50_E k) Try.f50 (F50_a a0_0 a0_1 a0_2 a0_3 a0_4 a0_5 a0_6 a0_7 a0_8 a0_9 a0_10) K)) (n + 1) (F50_s0 a0_0 a0_1 a0_2 a0_3 a0_4 a0_5 a0_6 a0_7 a0_8 a0_9 a0_10 x3_0) =
    F50_l0_T k a0_0 a0_1 a0_2 a0_3 a0_4 a0_5 a0_6 a0_7 a0_8 a0_9 a0_10 (fun x3_0 => loopG (F50_E k) Try.f50 [1, 1, 0, 1, 0] 0 (kontAt (F50_E k) [1, 1, 0, 1, 0] (bodyOf Try.f50) 0 (endC (F50_E k) Try.f50 (F50_a a0_0 a0_1 a0_2 a0_3 a0_4 a0_5 a0_6 a0_7 a0_8 a0_9 a0_10) K)) n (F50_s0 a0_0 a0_1 a0_2 a0_3 a0_4 a0_5 a0_6 a0_7 a0_8 a0_9 a0_10 x3_0)) (fun r => K (F50_r r)) x3_0 := by kernel_rfl
theorem F50_l0_lp {β : Type} (k : Nat) (a0_0 a0_1 a0_2 a0_3 a0_4 : Int) (a0_5 a0_6 a0_7 a0_8 : Bool) (a0_9 : List (den rng)) (a0_10 : List (den (.int .u8))) (K : A × List (List Leaf) → Option β) (n : Nat) : ∀ (x3_0 : Int), loopG (F50_E k) Try.f50 [1, 1, 0, 1, 0] 0 (kontAt (F50_E k) [1, 1, 0, 1, 0] (bodyOf Try.f50) 0 (endC (F50_E k) Try.f50 (F50_a a0_0 a0_1 a0_2 a0_3 a0_4 a0_5 a0_6 a0_7 a0_8 a0_9 a0_10) K)) n (F50_s0 a0_0 a0_1 a0_2 a0_3 a0_4 a0_5 a0_6 a0_7 a0_8 a0_9 a0_10 x3_0) =
    (F50_l0 k a0_0 a0_1 a0_2 a0_3 a0_4 a0_5 a0_6 a0_7 a0_8 a0_9 a0_10 n x3_0).bind fun r => K (F50_r r) := by
  induction n with
  | zero => intros; rfl
  | succ n ih =>
    intros
    rw [F50_l0_rd, F50_l0]
    simp only [F50_l0_T, bind_cond, Option.bind_assoc, Option.bind_some, Option.bind_none, Option.bind_fun_some, ih]
def F50_T {β : Type} (k : Nat) (a0_0 a0_1 a0_2 a0_3 a0_4 : Int) (a0_5 a0_6 a0_7 a0_8 : Bool) (a0_9 : List (den rng)) (a0_10 : List (den (.int .u8))) (LP0 : Int → Option β) (RET : Bool → Option β) : Option β := (F51 k a0_0 1 255).bind fun b1 => cond (!b1) (RET false) ((F51 k a0_1 1 255).bind fun b2 => cond (!b2) (RET false) ((F51 k a0_2 0 65535).bind fun b3 => cond (!b3) (RET false) ((F51 k a0_3 0 65535).bind fun b4 => cond (!b4) (RET false) ((F51 k a0_4 0 255).bind fun b5 => cond (!b5) (RET false) (cond (decide (((a0_9.length : Nat) : Int) > 2)) (RET false) (cond (decide (((a0_10.length : Nat) : Int) > 12)) (RET false) (LP0 0)))))))
def F50 (k : Nat) (a0_0 a0_1 a0_2 a0_3 a0_4 : Int) (a0_5 a0_6 a0_7 a0_8 : Bool) (a0_9 : List (den rng)) (a0_10 : List (den (.int .u8))) : Option (Bool) := F50_T k a0_0 a0_1 a0_2 a0_3 a0_4 a0_5 a0_6 a0_7 a0_8 a0_9 a0_10 (fun x3_0 => F50_l0 k a0_0 a0_1 a0_2 a0_3 a0_4 a0_5 a0_6 a0_7 a0_8 a0_9 a0_10 k x3_0) some
theorem F50_st {β : Type} (k : Nat) (a0_0 a0_1 a0_2 a0_3 a0_4 : Int) (a0_5 a0_6 a0_7 a0_8 : Bool) (a0_9 : List (den rng)) (a0_10 : List (den (.int .u8))) (K : A × List (List Leaf) → Option β) : evalF (F50_E k) Try.f50 (F50_a a0_0 a0_1 a0_2 a0_3 a0_4 a0_5 a0_6 a0_7 a0_8 a0_9 a0_10) K =
    F50_T k a0_0 a0_1 a0_2 a0_3 a0_4 a0_5 a0_6 a0_7 a0_8 a0_9 a0_10 (fun x3_0 => loopG (F50_E k) Try.f50 [1, 1, 0, 1, 0] 0 (kontAt (F50_E k) [1, 1, 0, 1, 0] (bodyOf Try.f50) 0 (endC (F50_E k) Try.f50 (F50_a a0_0 a0_1 a0_2 a0_3 a0_4 a0_5 a0_6 a0_7 a0_8 a0_9 a0_10) K)) k (F50_s0 a0_0 a0_1 a0_2 a0_3 a0_4 a0_5 a0_6 a0_7 a0_8 a0_9 a0_10 x3_0)) (fun r => K (F50_r r)) := by kernel_rfl
theorem F50_ev {β : Type} (k : Nat) (a0_0 a0_1 a0_2 a0_3 a0_4 : Int) (a0_5 a0_6 a0_7 a0_8 : Bool) (a0_9 : List (den rng)) (a0_10 : List (den (.int .u8))) (K : A × List (List Leaf) → Option β) : evalF (F50_E k) Try.f50 (F50_a a0_0 a0_1 a0_2 a0_3 a0_4 a0_5 a0_6 a0_7 a0_8 a0_9 a0_10) K = (F50 k a0_0 a0_1 a0_2 a0_3 a0_4 a0_5 a0_6 a0_7 a0_8 a0_9 a0_10).bind fun r => K (F50_r r) := by
  rw [F50_st, F50]
  simp only [F50_T, bind_cond, Option.bind_assoc, Option.bind_some, Option.bind_none, Option.bind_fun_some, F50_l0_lp]
theorem F50_tOk (k : Nat) : TabFn Try.prog (F50_t k) := .ent (F51_q k) F51_f (.none)
theorem F50_con (k : Nat) (a0_0 a0_1 a0_2 a0_3 a0_4 : Int) (a0_5 a0_6 a0_7 a0_8 : Bool) (a0_9 : List (den rng)) (a0_10 : List (den (.int .u8))) : Contract Try.prog 50 (F50_a a0_0 a0_1 a0_2 a0_3 a0_4 a0_5 a0_6 a0_7 a0_8 a0_9 a0_10) ⟨F50 k a0_0 a0_1 a0_2 a0_3 a0_4 a0_5 a0_6 a0_7 a0_8 a0_9 a0_10, F50_r⟩ := con_of (envOk (F50_tOk k) _ _ _ _) mixed Try.func50 rfl rfl (F50_ev k a0_0 a0_1 a0_2 a0_3 a0_4 a0_5 a0_6 a0_7 a0_8 a0_9 a0_10 some)
def F50_sh : List AK := [.agg [.l (.int .i64), .l (.int .i64), .l (.int .i64), .l (.int .i64), .l (.int .i64), .l (.bool), .l (.bool), .l (.bool), .l (.bool), .l (.sl .ro rng), .l (.sl .ro (.int .u8))]]
def F50_p (k : Nat) : List Arg → Option CR := cle F50_sh fun x => ⟨F50 k x.1.1 x.1.2.1 x.1.2.2.1 x.1.2.2.2.1 x.1.2.2.2.2.1 x.1.2.2.2.2.2.1 x.1.2.2.2.2.2.2.1 x.1.2.2.2.2.2.2.2.1 x.1.2.2.2.2.2.2.2.2.1 x.1.2.2.2.2.2.2.2.2.2.1 x.1.2.2.2.2.2.2.2.2.2.2.1, F50_r⟩
theorem F50_q (k : Nat) : ∀ xs cr, F50_p k xs = some cr → Contract Try.prog 50 xs cr := cle_ok fun x => F50_con k _ _ _ _ _ _ _ _ _ _ _
theorem F50_f : FnOk Try.prog 50 := .of (by kernel_rfl)
/-! 52: loop.example/netstack/spec.l21Copy -/
abbrev F52_E (k : Nat) : Env := env noTab noHint .own [] k
abbrev F52_a (a0_0 a0_1 a0_2 a0_3 a0_4 : Int) (a0_5 a0_6 a0_7 a0_8 : Bool) (a0_9 : List (den rng)) (a0_10 : List (den (.int .u8))) : List Arg := [.agg [.l (.v (.int .i64 a0_0)), .l (.v (.int .i64 a0_1)), .l (.v (.int .i64 a0_2)), .l (.v (.int .i64 a0_3)), .l (.v (.int .i64 a0_4)), .l (.v (.bool a0_5)), .l (.v (.bool a0_6)), .l (.v (.bool a0_7)), .l (.v (.bool a0_8)), .l (.s .ro rng a0_9), .l (.s .ro (.int .u8) a0_10)]]
def F52_r (r : Int × Int × Int × Int × Int × Bool × Bool × Bool × Bool × List (den rng) × List (den (.int .u8))) : A × List (List Leaf) := (.agg [.v (.int .i64 r.1), .v (.int .i64 r.2.1), .v (.int .i64 r.2.2.1), .v (.int .i64 r.2.2.2.1), .v (.int .i64 r.2.2.2.2.1), .v (.bool r.2.2.2.2.2.1), .v (.bool r.2.2.2.2.2.2.1), .v (.bool r.2.2.2.2.2.2.2.1), .v (.bool r.2.2.2.2.2.2.2.2.1), .s .own rng r.2.2.2.2.2.2.2.2.2.1, .s .own (.int .u8) r.2.2.2.2.2.2.2.2.2.2], [])
def F52_T {β : Type} (k : Nat) (a0_0 a0_1 a0_2 a0_3 a0_4 : Int) (a0_5 a0_6 a0_7 a0_8 : Bool) (a0_9 : List (den rng)) (a0_10 : List (den (.int .u8))) (RET : (Int × Int × Int × Int × Int × Bool × Bool × Bool × Bool × List (den rng) × List (den (.int .u8))) → Option β) : Option β := cond (decide ((([] : List (den rng)).length + a0_9.length) * 16 ≤ 140737488355328)) (cond (decide ((([] : List (den (.int .u8))).length + a0_10.length) * 1 ≤ 140737488355328)) (RET (a0_0, a0_1, a0_2, a0_3, a0_4, a0_5, a0_6, a0_7, a0_8, [] ++ a0_9, [] ++ a0_10)) none) none
def F52 (k : Nat) (a0_0 a0_1 a0_2 a0_3 a0_4 : Int) (a0_5 a0_6 a0_7 a0_8 : Bool) (a0_9 : List (den rng)) (a0_10 : List (den (.int .u8))) : Option (Int × Int × Int × Int × Int × Bool × Bool × Bool × Bool × List (den rng) × List (den (.int .u8))) := F52_T k a0_0 a0_1 a0_2 a0_3 a0_4 a0_5 a0_6 a0_7 a0_8 a0_9 a0_10 some
theorem F52_st {β : Type} (k : Nat) (a0_0 a0_1 a0_2 a0_3 a0_4 : Int) (a0_5 a0_6 a0_7 a0_8 : Bool) (a0_9 : List (den rng)) (a0_10 : List (den (.int .u8))) (K : A × List (List Leaf) → Option β) : evalF (F52_E k) Try.f52 (F52_a a0_0 a0_1 a0_2 a0_3 a0_4 a0_5 a0_6 a0_7 a0_8 a0_9 a0_10) K =
    F52_T k a0_0 a0_1 a0_2 a0_3 a0_4 a0_5 a0_6 a0_7 a0_8 a0_9 a0_10 (fun r => K (F52_r r)) := by kernel_rfl
theorem F52_ev {β : Type} (k : Nat) (a0_0 a0_1 a0_2 a0_3 a0_4 : Int) (a0_5 a0_6 a0_7 a0_8 : Bool) (a0_9 : List (den rng)) (a0_10 : List (den (.int .u8))) (K : A × List (List Leaf) → Option β) : evalF (F52_E k) Try.f52 (F52_a a0_0 a0_1 a0_2 a0_3 a0_4 a0_5 a0_6 a0_7 a0_8 a0_9 a0_10) K = (F52 k a0_0 a0_1 a0_2 a0_3 a0_4 a0_5 a0_6 a0_7 a0_8 a0_9 a0_10).bind fun r => K (F52_r r) := by
  rw [F52_st, F52]
  simp only [F52_T, bind_cond, Option.bind_assoc, Option.bind_some, Option.bind_none, Option.bind_fun_some]
theorem F52_con (k : Nat) (a0_0 a0_1 a0_2 a0_3 a0_4 : Int) (a0_5 a0_6 a0_7 a0_8 : Bool) (a0_9 : List (den rng)) (a0_10 : List (den (.int .u8))) : Contract Try.prog 52 (F52_a a0_0 a0_1 a0_2 a0_3 a0_4 a0_5 a0_6 a0_7 a0_8 a0_9 a0_10) ⟨F52 k a0_0 a0_1 a0_2 a0_3 a0_4 a0_5 a0_6 a0_7 a0_8 a0_9 a0_10, F52_r⟩ := con_of (envOk .none _ _ _ _) mixed Try.func52 rfl rfl (F52_ev k a0_0 a0_1 a0_2 a0_3 a0_4 a0_5 a0_6 a0_7 a0_8 a0_9 a0_10 some)
def F52_sh : List AK := [.agg [.l (.int .i64), .l (.int .i64), .l (.int .i64), .l (.int .i64), .l (.int .i64), .l (.bool), .l (.bool), .l (.bool), .l (.bool), .l (.sl .ro rng), .l (.sl .ro (.int .u8))]]
def F52_p (k : Nat) : List Arg → Option CR := cle F52_sh fun x => ⟨F52 k x.1.1 x.1.2.1 x.1.2.2.1 x.1.2.2.2.1 x.1.2.2.2.2.1 x.1.2.2.2.2.2.1 x.1.2.2.2.2.2.2.1 x.1.2.2.2.2.2.2.2.1 x.1.2.2.2.2.2.2.2.2.1 x.1.2.2.2.2.2.2.2.2.2.1 x.1.2.2.2.2.2.2.2.2.2.2.1, F52_r⟩
theorem F52_q (k : Nat) : ∀ xs cr, F52_p k xs = some cr → Contract Try.prog 52 xs cr := cle_ok fun x => F52_con k _ _ _ _ _ _ _ _ _ _ _
theorem F52_f : FnOk Try.prog 52 := .of (by kernel_rfl)
/-! 53: loop.example/netstack/spec.SeqOf -/
abbrev F53_E (k : Nat) : Env := env noTab noHint .own [] k
abbrev F53_a (a0 : Int) : List Arg := [.one (.l (.v (.int .i64 a0)))]
def F53_r (r : Int) : A × List (List Leaf) := (.one (.v (.int .i64 r)), [])
def F53 (k : Nat) (a0 : Int) : Option (Int) := cond (decide ((a0.tmod 65536) < 0)) (some (IntKind.i64.wrap ((a0.tmod 65536) + 65536))) (some (a0.tmod 65536))
theorem F53_st {β : Type} (k : Nat) (a0 : Int) (K : A × List (List Leaf) → Option β) : evalF (F53_E k) Try.f53 (F53_a a0) K =
    cond (decide ((a0.tmod 65536) < 0)) (K (.one (.v (.int .i64 (IntKind.i64.wrap ((a0.tmod 65536) + 65536)))), [])) (K (.one (.v (.int .i64 (a0.tmod 65536))), [])) := by kernel_rfl
theorem F53_ev {β : Type} (k : Nat) (a0 : Int) (K : A × List (List Leaf) → Option β) : evalF (F53_E k) Try.f53 (F53_a a0) K = (F53 k a0).bind fun r => K (F53_r r) := by
  rw [F53_st, F53]
  simp only [F53_r, bind_cond, Option.bind_assoc, Option.bind_some, Option.bind_none, Option.bind_fun_some]
theorem F53_con (k : Nat) (a0 : Int) : Contract Try.prog 53 (F53_a a0) ⟨F53 k a0, F53_r⟩ := con_of (envOk .none _ _ _ _) mixed Try.func53 rfl rfl (F53_ev k a0 some)
def F53_sh : List AK := [.one (.l (.int .i64))]
def F53_p (k : Nat) : List Arg → Option CR := cle F53_sh fun x => ⟨F53 k x.1, F53_r⟩
theorem F53_q (k : Nat) : ∀ xs cr, F53_p k xs = some cr → Contract Try.prog 53 xs cr := cle_ok fun x => F53_con k _
theorem F53_f : FnOk Try.prog 53 := .of (by kernel_rfl)
/-! 13: loop.example/netstack/spec.SegmentCut -/
def F13_h : Nat → Hint
  | 0 => ⟨[(1, .plain), (2, .plain), (5, .own .own seg []), (6, .plain)], [(2000, .plain), (2001, .plain), (2002, .plain), (2003, .plain), (2004, .plain), (2005, .plain), (2006, .plain), (2007, .plain), (2008, .plain), (2009, .plain), (2010, .plain)]⟩
  | _ => ⟨[], []⟩
def F13_t (k : Nat) : Tab := entT 50 (F50_p k) <| entT 51 (F51_p k) <| entT 52 (F52_p k) <| entT 53 (F53_p k) <| noTab
abbrev F13_E (k : Nat) : Env := env (F13_t k) F13_h .own [] k
abbrev F13_a (a0_0 a0_1 a0_2 a0_3 a0_4 : Int) (a0_5 a0_6 a0_7 a0_8 : Bool) (a0_9 : List (den rng)) (a0_10 : List (den (.int .u8))) (a1 : Int) : List Arg := [.agg [.l (.v (.int .i64 a0_0)), .l (.v (.int .i64 a0_1)), .l (.v (.int .i64 a0_2)), .l (.v (.int .i64 a0_3)), .l (.v (.int .i64 a0_4)), .l (.v (.bool a0_5)), .l (.v (.bool a0_6)), .l (.v (.bool a0_7)), .l (.v (.bool a0_8)), .l (.s .ro rng a0_9), .l (.s .ro (.int .u8) a0_10)], .one (.l (.v (.int .i64 a1)))]
def F13_r (r : List (den seg)) : A × List (List Leaf) := (.one (.s .own seg r), [])
def F13_s0 (a0_0 a0_1 a0_2 a0_3 a0_4 : Int) (a0_5 a0_6 a0_7 a0_8 : Bool) (a0_9 : List (den rng)) (a0_10 : List (den (.int .u8))) (a1 : Int) (x6_0 : Int) (m5900_0 : List (den seg)) : St := ⟨(.one .d) :: (.one (.v (.int .i64 a1))) :: (.one (.ptr (.cell 2000) 11 0)) :: (.one .d) :: (.one .d) :: (.one (.a (.cell 5900) 0 0 none)) :: (.one (.v (.int .i64 x6_0))) :: dz 74 [], [(2000, ⟨.v (.int .i64 a0_0), 0, 0⟩), (2001, ⟨.v (.int .i64 a0_1), 0, 0⟩), (2002, ⟨.v (.int .i64 a0_2), 0, 0⟩), (2003, ⟨.v (.int .i64 a0_3), 0, 0⟩), (2004, ⟨.v (.int .i64 a0_4), 0, 0⟩), (2005, ⟨.v (.bool a0_5), 0, 0⟩), (2006, ⟨.v (.bool a0_6), 0, 0⟩), (2007, ⟨.v (.bool a0_7), 0, 0⟩), (2008, ⟨.v (.bool a0_8), 0, 0⟩), (2009, ⟨.s .ro rng a0_9, 0, 0⟩), (2010, ⟨.s .ro (.int .u8) a0_10, 0, 0⟩), (5900, ⟨.s .own seg m5900_0, 0, 0⟩)]⟩
def F13_l0_j2 {β : Type} (k : Nat) (a0_0 a0_1 a0_2 a0_3 a0_4 : Int) (a0_5 a0_6 a0_7 a0_8 : Bool) (a0_9 : List (den rng)) (a0_10 : List (den (.int .u8))) (a1 : Int) (NX : Int → List (den seg) → Option β) (RET : List (den seg) → Option β) (m5900_0 : List (den seg)) (b3 : Int × Int × Int × Int × Int × Bool × Bool × Bool × Bool × List (den rng) × List (den (.int .u8))) (b5 x6_0 : Int) : Option β := cond a0_7 (cond (decide ((m5900_0.length + [(b3.1, b3.2.1, b5, b3.2.2.2.1, b3.2.2.2.2.1, false, b3.2.2.2.2.2.2.1, ((if ((a0_10.length : Nat) : Int) < (IntKind.i64.wrap (x6_0 + a1)) then ((a0_10.length : Nat) : Int) else IntKind.i64.wrap (x6_0 + a1)) == ((a0_10.length : Nat) : Int)), b3.2.2.2.2.2.2.2.2.1, b3.2.2.2.2.2.2.2.2.2.1, [] ++ ((a0_10.take ((if ((a0_10.length : Nat) : Int) < (IntKind.i64.wrap (x6_0 + a1)) then ((a0_10.length : Nat) : Int) else IntKind.i64.wrap (x6_0 + a1)).toNat)).drop x6_0.toNat))].length) * 96 ≤ 140737488355328)) (NX (IntKind.i64.wrap (x6_0 + a1)) (m5900_0 ++ [(b3.1, b3.2.1, b5, b3.2.2.2.1, b3.2.2.2.2.1, false, b3.2.2.2.2.2.2.1, ((if ((a0_10.length : Nat) : Int) < (IntKind.i64.wrap (x6_0 + a1)) then ((a0_10.length : Nat) : Int) else IntKind.i64.wrap (x6_0 + a1)) == ((a0_10.length : Nat) : Int)), b3.2.2.2.2.2.2.2.2.1, b3.2.2.2.2.2.2.2.2.2.1, [] ++ ((a0_10.take ((if ((a0_10.length : Nat) : Int) < (IntKind.i64.wrap (x6_0 + a1)) then ((a0_10.length : Nat) : Int) else IntKind.i64.wrap (x6_0 + a1)).toNat)).drop x6_0.toNat))])) none) (cond (decide ((m5900_0.length + [(b3.1, b3.2.1, b5, b3.2.2.2.1, b3.2.2.2.2.1, false, b3.2.2.2.2.2.2.1, false, b3.2.2.2.2.2.2.2.2.1, b3.2.2.2.2.2.2.2.2.2.1, [] ++ ((a0_10.take ((if ((a0_10.length : Nat) : Int) < (IntKind.i64.wrap (x6_0 + a1)) then ((a0_10.length : Nat) : Int) else IntKind.i64.wrap (x6_0 + a1)).toNat)).drop x6_0.toNat))].length) * 96 ≤ 140737488355328)) (NX (IntKind.i64.wrap (x6_0 + a1)) (m5900_0 ++ [(b3.1, b3.2.1, b5, b3.2.2.2.1, b3.2.2.2.2.1, false, b3.2.2.2.2.2.2.1, false, b3.2.2.2.2.2.2.2.2.1, b3.2.2.2.2.2.2.2.2.2.1, [] ++ ((a0_10.take ((if ((a0_10.length : Nat) : Int) < (IntKind.i64.wrap (x6_0 + a1)) then ((a0_10.length : Nat) : Int) else IntKind.i64.wrap (x6_0 + a1)).toNat)).drop x6_0.toNat))])) none)
def F13_l0_j1 {β : Type} (k : Nat) (a0_0 a0_1 a0_2 a0_3 a0_4 : Int) (a0_5 a0_6 a0_7 a0_8 : Bool) (a0_9 : List (den rng)) (a0_10 : List (den (.int .u8))) (a1 : Int) (NX : Int → List (den seg) → Option β) (RET : List (den seg) → Option β) (x6_0 : Int) (m5900_0 : List (den seg)) : Option β := (F52 k a0_0 a0_1 a0_2 a0_3 a0_4 a0_5 a0_6 a0_7 a0_8 a0_9 a0_10).bind fun b3 => cond (decide (0 ≤ (if ((a0_10.length : Nat) : Int) < (IntKind.i64.wrap (x6_0 + a1)) then ((a0_10.length : Nat) : Int) else IntKind.i64.wrap (x6_0 + a1))) && decide ((if ((a0_10.length : Nat) : Int) < (IntKind.i64.wrap (x6_0 + a1)) then ((a0_10.length : Nat) : Int) else IntKind.i64.wrap (x6_0 + a1)) ≤ ((a0_10.length : Nat) : Int))) (cond (decide (0 ≤ x6_0) && decide (x6_0 ≤ (if ((a0_10.length : Nat) : Int) < (IntKind.i64.wrap (x6_0 + a1)) then ((a0_10.length : Nat) : Int) else IntKind.i64.wrap (x6_0 + a1)))) (cond (decide ((([] : List (den (.int .u8))).length + ((a0_10.take ((if ((a0_10.length : Nat) : Int) < (IntKind.i64.wrap (x6_0 + a1)) then ((a0_10.length : Nat) : Int) else IntKind.i64.wrap (x6_0 + a1)).toNat)).drop x6_0.toNat).length) * 1 ≤ 140737488355328)) (cond (decide (x6_0 > 0)) ((F53 k (IntKind.i64.wrap (a0_2 + x6_0))).bind fun b4 => cond a0_5 ((F53 k (IntKind.i64.wrap ((IntKind.i64.wrap (a0_2 + x6_0)) + 1))).bind fun b5 => F13_l0_j2 k a0_0 a0_1 a0_2 a0_3 a0_4 a0_5 a0_6 a0_7 a0_8 a0_9 a0_10 a1 NX RET m5900_0 b3 b5 x6_0) (F13_l0_j2 k a0_0 a0_1 a0_2 a0_3 a0_4 a0_5 a0_6 a0_7 a0_8 a0_9 a0_10 a1 NX RET m5900_0 b3 b4 x6_0)) (cond a0_7 (cond (decide ((m5900_0.length + [(b3.1, b3.2.1, b3.2.2.1, b3.2.2.2.1, b3.2.2.2.2.1, b3.2.2.2.2.2.1, b3.2.2.2.2.2.2.1, ((if ((a0_10.length : Nat) : Int) < (IntKind.i64.wrap (x6_0 + a1)) then ((a0_10.length : Nat) : Int) else IntKind.i64.wrap (x6_0 + a1)) == ((a0_10.length : Nat) : Int)), b3.2.2.2.2.2.2.2.2.1, b3.2.2.2.2.2.2.2.2.2.1, [] ++ ((a0_10.take ((if ((a0_10.length : Nat) : Int) < (IntKind.i64.wrap (x6_0 + a1)) then ((a0_10.length : Nat) : Int) else IntKind.i64.wrap (x6_0 + a1)).toNat)).drop x6_0.toNat))].length) * 96 ≤ 140737488355328)) (NX (IntKind.i64.wrap (x6_0 + a1)) (m5900_0 ++ [(b3.1, b3.2.1, b3.2.2.1, b3.2.2.2.1, b3.2.2.2.2.1, b3.2.2.2.2.2.1, b3.2.2.2.2.2.2.1, ((if ((a0_10.length : Nat) : Int) < (IntKind.i64.wrap (x6_0 + a1)) then ((a0_10.length : Nat) : Int) else IntKind.i64.wrap (x6_0 + a1)) == ((a0_10.length : Nat) : Int)), b3.2.2.2.2.2.2.2.2.1, b3.2.2.2.2.2.2.2.2.2.1, [] ++ ((a0_10.take ((if ((a0_10.length : Nat) : Int) < (IntKind.i64.wrap (x6_0 + a1)) then ((a0_10.length : Nat) : Int) else IntKind.i64.wrap (x6_0 + a1)).toNat)).drop x6_0.toNat))])) none) (cond (decide ((m5900_0.length + [(b3.1, b3.2.1, b3.2.2.1, b3.2.2.2.1, b3.2.2.2.2.1, b3.2.2.2.2.2.1, b3.2.2.2.2.2.2.1, false, b3.2.2.2.2.2.2.2.2.1, b3.2.2.2.2.2.2.2.2.2.1, [] ++ ((a0_10.take ((if ((a0_10.length : Nat) : Int) < (IntKind.i64.wrap (x6_0 + a1)) then ((a0_10.length : Nat) : Int) else IntKind.i64.wrap (x6_0 + a1)).toNat)).drop x6_0.toNat))].length) * 96 ≤ 140737488355328)) (NX (IntKind.i64.wrap (x6_0 + a1)) (m5900_0 ++ [(b3.1, b3.2.1, b3.2.2.1, b3.2.2.2.1, b3.2.2.2.2.1, b3.2.2.2.2.2.1, b3.2.2.2.2.2.2.1, false, b3.2.2.2.2.2.2.2.2.1, b3.2.2.2.2.2.2.2.2.2.1, [] ++ ((a0_10.take ((if ((a0_10.length : Nat) : Int) < (IntKind.i64.wrap (x6_0 + a1)) then ((a0_10.length : Nat) : Int) else IntKind.i64.wrap (x6_0 + a1)).toNat)).drop x6_0.toNat))])) none))) none) none) none
def F13_l0_T {β : Type} (k : Nat) (a0_0 a0_1 a0_2 a0_3 a0_4 : Int) (a0_5 a0_6 a0_7 a0_8 : Bool) (a0_9 : List (den rng)) (a0_10 : List (den (.int .u8))) (a1 : Int) (NX : Int → List (den seg) → Option β) (RET : List (den seg) → Option β) (x6_0 : Int) (m5900_0 : List (den seg)) : Option β := cond (x6_0 == 0) (F13_l0_j1 k a0_0 a0_1 a0_2 a0_3 a0_4 a0_5 a0_6 a0_7 a0_8 a0_9 a0_10 a1 NX RET x6_0 m5900_0) (cond (decide (x6_0 < ((a0_10.length : Nat) : Int))) (F13_l0_j1 k a0_0 a0_1 a0_2 a0_3 a0_4 a0_5 a0_6 a0_7 a0_8 a0_9 a0_10 a1 NX RET x6_0 m5900_0) (RET m5900_0))
def F13_l0 (k : Nat) (a0_0 a0_1 a0_2 a0_3 a0_4 : Int) (a0_5 a0_6 a0_7 a0_8 : Bool) (a0_9 : List (den rng)) (a0_10 : List (den (.int .u8))) (a1 : Int) : Nat → Int → List (den seg) → Option (List (den seg))
  | 0, _, _ => none
  | n + 1, x6_0, m5900_0 => F13_l0_T k a0_0 a0_1 a0_2 a0_3 a0_4 a0_5 a0_6 a0_7 a0_8 a0_9 a0_10 a1 (fun x6_0 m5900_0 => F13_l0 k a0_0 a0_1 a0_2 a0_3 a0_4 a0_5 a0_6 a0_7 a0_8 a0_9 a0_10 a1 n x6_0 m5900_0) some x6_0 m5900_0
theorem F13_l0_rd {β : Type} (k n : Nat) (a0_0 a0_1 a0_2 a0_3 a0_4 : Int) (a0_5 a0_6 a0_7 a0_8 : Bool) (a0_9 : List (den rng)) (a0_10 : List (den (.int .u8))) (a1 : Int) (x6_0 : Int) (m5900_0 : List (den seg)) (K : A × List (List Leaf) → Option β) :
    loopG (F13_E k) Try.f13 [1, 1, 1, 0, 1, 0] 0 (kontAt (F13_E k) [1, 1, 1, 0, 1, 0] (bodyOf Try.f13) 0 (endC (F13_E k) Try.f13 (F13_a a0_0 a0_1 a0_2 a0_3 a0_4 a0_5 a0_6 a0_7 a0_8 a0_9 a0_10 a1) K)) (n + 1) (F13_s0 a0_0 a0_1 a0_2 a0_3 a0_4 a0_5 a0_6 a0_7 a0_8 a0_9 a0_10 a1 x6_0 m5900_0) =
    F13_l0_T k a0_0 a0_1 a0_2 a0_3 a0_4 a0_5 a0_6 a0_7 a0_8 a0_9 a0_10 a1 (fun x6_0 m5900_0 => loopG (F13_E k) Try.f13 [1, 1, 1, 0, 1, 0] 0 (kontAt (F13_E k) [1, 1, 1, 0, 1, 0] (bodyOf Try.f13) 0 (endC (F13_E k) Try.f13 (F13_a a0_0 a0_1 a0_2 a0_3 a0_4 a0_5 a0_6 a0_7 a0_8 a0_9 a0_10 a1) K)) n (F13_s0 a0_0 a0_1 a0_2 a0_3 a0_4 a0_5 a0_6 a0_7 a0_8 a0_9 a0_10 a1 x6_0 m5900_0)) (fun r => K (F13_r r)) x6_0 m5900_0 := by kernel_rfl
theorem F13_l0_lp {β : Type} (k : Nat) (a0_0 a0_1 a0_2 a0_3 a0_4 : Int) (a0_5 a0_6 a0_7 a0_8 : Bool) (a0_9 : List (den rng)) (a0_10 : List (den (.int .u8))) (a1 : Int) (K : A × List (List Leaf) → Option β) (n : Nat) : ∀ (x6_0 : Int) (m5900_0 : List (den seg)), loopG (F13_E k) Try.f13 [1, 1, 1, 0, 1, 0] 0 (kontAt (F13_E k) [1, 1, 1, 0, 1, 0] (bodyOf Try.f13) 0 (endC (F13_E k) Try.f13 (F13_a a0_0 a0_1 a0_2 a0_3 a0_4 a0_5 a0_6 a0_7 a0_8 a0_9 a0_10 a1) K)) n (F13_s0 a0_0 a0_1 a0_2 a0_3 a0_4 a0_5 a0_6 a0_7 a0_8 a0_9 a0_10 a1 x6_0 m5900_0) =
    (F13_l0 k a0_0 a0_1 a0_2 a0_3 a0_4 a0_5 a0_6 a0_7 a0_8 a0_9 a0_10 a1 n x6_0 m5900_0).bind fun r => K (F13_r r) := by
  induction n with
  | zero => intros; rfl
  | succ n ih =>
    intros
    rw [F13_l0_rd, F13_l0]
    simp only [F13_l0_T, F13_l0_j2, F13_l0_j1, bind_cond, Option.bind_assoc, Option.bind_some, Option.bind_none, Option.bind_fun_some, ih]
def F13_T {β : Type} (k : Nat) (a0_0 a0_1 a0_2 a0_3 a0_4 : Int) (a0_5 a0_6 a0_7 a0_8 : Bool) (a0_9 : List (den rng)) (a0_10 : List (den (.int .u8))) (a1 : Int) (LP0 : Int → List (den seg) → Option β) (RET : List (den seg) → Option β) : Option β := (F50 k a0_0 a0_1 a0_2 a0_3 a0_4 a0_5 a0_6 a0_7 a0_8 a0_9 a0_10).bind fun b1 => cond (!b1) (RET []) ((F51 k a1 1 12).bind fun b2 => cond (!b2) (RET []) (LP0 0 []))
def F13 (k : Nat) (a0_0 a0_1 a0_2 a0_3 a0_4 : Int) (a0_5 a0_6 a0_7 a0_8 : Bool) (a0_9 : List (den rng)) (a0_10 : List (den (.int .u8))) (a1 : Int) : Option (List (den seg)) := F13_T k a0_0 a0_1 a0_2 a0_3 a0_4 a0_5 a0_6 a0_7 a0_8 a0_9 a0_10 a1 (fun x6_0 m5900_0 => F13_l0 k a0_0 a0_1 a0_2 a0_3 a0_4 a0_5 a0_6 a0_7 a0_8 a0_9 a0_10 a1 k x6_0 m5900_0) some
theorem F13_st {β : Type} (k : Nat) (a0_0 a0_1 a0_2 a0_3 a0_4 : Int) (a0_5 a0_6 a0_7 a0_8 : Bool) (a0_9 : List (den rng)) (a0_10 : List (den (.int .u8))) (a1 : Int) (K : A × List (List Leaf) → Option β) : evalF (F13_E k) Try.f13 (F13_a a0_0 a0_1 a0_2 a0_3 a0_4 a0_5 a0_6 a0_7 a0_8 a0_9 a0_10 a1) K =
    F13_T k a0_0 a0_1 a0_2 a0_3 a0_4 a0_5 a0_6 a0_7 a0_8 a0_9 a0_10 a1 (fun x6_0 m5900_0 => loopG (F13_E k) Try.f13 [1, 1, 1, 0, 1, 0] 0 (kontAt (F13_E k) [1, 1, 1, 0, 1, 0] (bodyOf Try.f13) 0 (endC (F13_E k) Try.f13 (F13_a a0_0 a0_1 a0_2 a0_3 a0_4 a0_5 a0_6 a0_7 a0_8 a0_9 a0_10 a1) K)) k (F13_s0 a0_0 a0_1 a0_2 a0_3 a0_4 a0_5 a0_6 a0_7 a0_8 a0_9 a0_10 a1 x6_0 m5900_0)) (fun r => K (F13_r r)) := by kernel_rfl
theorem F13_ev {β : Type} (k : Nat) (a0_0 a0_1 a0_2 a0_3 a0_4 : Int) (a0_5 a0_6 a0_7 a0_8 : Bool) (a0_9 : List (den rng)) (a0_10 : List (den (.int .u8))) (a1 : Int) (K : A × List (List Leaf) → Option β) : evalF (F13_E k) Try.f13 (F13_a a0_0 a0_1 a0_2 a0_3 a0_4 a0_5 a0_6 a0_7 a0_8 a0_9 a0_10 a1) K = (F13 k a0_0 a0_1 a0_2 a0_3 a0_4 a0_5 a0_6 a0_7 a0_8 a0_9 a0_10 a1).bind fun r => K (F13_r r) := by
  rw [F13_st, F13]
  simp only [F13_T, bind_cond, Option.bind_assoc, Option.bind_some, Option.bind_none, Option.bind_fun_some, F13_l0_lp]
theorem F13_tOk (k : Nat) : TabFn Try.prog (F13_t k) := .ent (F50_q k) F50_f (.ent (F51_q k) F51_f (.ent (F52_q k) F52_f (.ent (F53_q k) F53_f (.none))))
theorem F13_con (k : Nat) (a0_0 a0_1 a0_2 a0_3 a0_4 : Int) (a0_5 a0_6 a0_7 a0_8 : Bool) (a0_9 : List (den rng)) (a0_10 : List (den (.int .u8))) (a1 : Int) : Contract Try.prog 13 (F13_a a0_0 a0_1 a0_2 a0_3 a0_4 a0_5 a0_6 a0_7 a0_8 a0_9 a0_10 a1) ⟨F13 k a0_0 a0_1 a0_2 a0_3 a0_4 a0_5 a0_6 a0_7 a0_8 a0_9 a0_10 a1, F13_r⟩ := con_of (envOk (F13_tOk k) _ _ _ _) mixed Try.func13 rfl rfl (F13_ev k a0_0 a0_1 a0_2 a0_3 a0_4 a0_5 a0_6 a0_7 a0_8 a0_9 a0_10 a1 some)
def F13_sh : List AK := [.agg [.l (.int .i64), .l (.int .i64), .l (.int .i64), .l (.int .i64), .l (.int .i64), .l (.bool), .l (.bool), .l (.bool), .l (.bool), .l (.sl .ro rng), .l (.sl .ro (.int .u8))], .one (.l (.int .i64))]
def F13_p (k : Nat) : List Arg → Option CR := cle F13_sh fun x => ⟨F13 k x.1.1 x.1.2.1 x.1.2.2.1 x.1.2.2.2.1 x.1.2.2.2.2.1 x.1.2.2.2.2.2.1 x.1.2.2.2.2.2.2.1 x.1.2.2.2.2.2.2.2.1 x.1.2.2.2.2.2.2.2.2.1 x.1.2.2.2.2.2.2.2.2.2.1 x.1.2.2.2.2.2.2.2.2.2.2.1 x.2.1, F13_r⟩
theorem F13_q (k : Nat) : ∀ xs cr, F13_p k xs = some cr → Contract Try.prog 13 xs cr := cle_ok fun x => F13_con k _ _ _ _ _ _ _ _ _ _ _ _
theorem F13_f : FnOk Try.prog 13 := .of (by kernel_rfl)
/-! 45: loop.example/netstack/impl.in -/
abbrev F45_E (k : Nat) : Env := env noTab noHint .own [] k
abbrev F45_a (a0 a1 a2 : Int) : List Arg := [.one (.l (.v (.int .i64 a0))), .one (.l (.v (.int .i64 a1))), .one (.l (.v (.int .i64 a2)))]
def F45_r (r : Bool) : A × List (List Leaf) := (.one (.v (.bool r)), [])
def F45 (k : Nat) (a0 a1 a2 : Int) : Option (Bool) := cond (decide (a0 ≥ a1)) (some (decide (a0 ≤ a2))) (some false)
theorem F45_st {β : Type} (k : Nat) (a0 a1 a2 : Int) (K : A × List (List Leaf) → Option β) : evalF (F45_E k) Try.f45 (F45_a a0 a1 a2) K =
    cond (decide (a0 ≥ a1)) (K (.one (.v (.bool (decide (a0 ≤ a2)))), [])) (K (.one (.v (.bool false)), [])) := by kernel_rfl
theorem F45_ev {β : Type} (k : Nat) (a0 a1 a2 : Int) (K : A × List (List Leaf) → Option β) : evalF (F45_E k) Try.f45 (F45_a a0 a1 a2) K = (F45 k a0 a1 a2).bind fun r => K (F45_r r) := by
  rw [F45_st, F45]
  simp only [F45_r, bind_cond, Option.bind_assoc, Option.bind_some, Option.bind_none, Option.bind_fun_some]
theorem F45_con (k : Nat) (a0 a1 a2 : Int) : Contract Try.prog 45 (F45_a a0 a1 a2) ⟨F45 k a0 a1 a2, F45_r⟩ := con_of (envOk .none _ _ _ _) mixed Try.func45 rfl rfl (F45_ev k a0 a1 a2 some)
def F45_sh : List AK := [.one (.l (.int .i64)), .one (.l (.int .i64)), .one (.l (.int .i64))]
def F45_p (k : Nat) : List Arg → Option CR := cle F45_sh fun x => ⟨F45 k x.1 x.2.1 x.2.2.1, F45_r⟩
theorem F45_q (k : Nat) : ∀ xs cr, F45_p k xs = some cr → Contract Try.prog 45 xs cr := cle_ok fun x => F45_con k _ _ _
theorem F45_f : FnOk Try.prog 45 := .of (by kernel_rfl)
/-! 54: loop.example/netstack/impl.portOk -/
def F54_t (k : Nat) : Tab := entT 45 (F45_p k) <| noTab
abbrev F54_E (k : Nat) : Env := env (F54_t k) noHint .own [] k
abbrev F54_a (a0 : Int) : List Arg := [.one (.l (.v (.int .i64 a0)))]
def F54_r (r : Bool) : A × List (List Leaf) := (.one (.v (.bool r)), [])
def F54 (k : Nat) (a0 : Int) : Option (Bool) := (F45 k a0 1 255).bind fun b1 => some b1
theorem F54_st {β : Type} (k : Nat) (a0 : Int) (K : A × List (List Leaf) → Option β) : evalF (F54_E k) Try.f54 (F54_a a0) K =
    (F45 k a0 1 255).bind fun b1 => K (.one (.v (.bool b1)), []) := by kernel_rfl
theorem F54_ev {β : Type} (k : Nat) (a0 : Int) (K : A × List (List Leaf) → Option β) : evalF (F54_E k) Try.f54 (F54_a a0) K = (F54 k a0).bind fun r => K (F54_r r) := by
  rw [F54_st, F54]
  simp only [F54_r, bind_cond, Option.bind_assoc, Option.bind_some, Option.bind_none, Option.bind_fun_some]
theorem F54_tOk (k : Nat) : TabFn Try.prog (F54_t k) := .ent (F45_q k) F45_f (.none)
theorem F54_con (k : Nat) (a0 : Int) : Contract Try.prog 54 (F54_a a0) ⟨F54 k a0, F54_r⟩ := con_of (envOk (F54_tOk k) _ _ _ _) mixed Try.func54 rfl rfl (F54_ev k a0 some)
def F54_sh : List AK := [.one (.l (.int .i64))]
def F54_p (k : Nat) : List Arg → Option CR := cle F54_sh fun x => ⟨F54 k x.1, F54_r⟩
theorem F54_q (k : Nat) : ∀ xs cr, F54_p k xs = some cr → Contract Try.prog 54 xs cr := cle_ok fun x => F54_con k _
theorem F54_f : FnOk Try.prog 54 := .of (by kernel_rfl)
/-! 55: loop.example/netstack/impl.word -/
def F55_t (k : Nat) : Tab := entT 45 (F45_p k) <| noTab
abbrev F55_E (k : Nat) : Env := env (F55_t k) noHint .own [] k
abbrev F55_a (a0 : Int) : List Arg := [.one (.l (.v (.int .i64 a0)))]
def F55_r (r : Bool) : A × List (List Leaf) := (.one (.v (.bool r)), [])
def F55 (k : Nat) (a0 : Int) : Option (Bool) := (F45 k a0 0 65535).bind fun b1 => some b1
theorem F55_st {β : Type} (k : Nat) (a0 : Int) (K : A × List (List Leaf) → Option β) : evalF (F55_E k) Try.f55 (F55_a a0) K =
    (F45 k a0 0 65535).bind fun b1 => K (.one (.v (.bool b1)), []) := by kernel_rfl
theorem F55_ev {β : Type} (k : Nat) (a0 : Int) (K : A × List (List Leaf) → Option β) : evalF (F55_E k) Try.f55 (F55_a a0) K = (F55 k a0).bind fun r => K (F55_r r) := by
  rw [F55_st, F55]
  simp only [F55_r, bind_cond, Option.bind_assoc, Option.bind_some, Option.bind_none, Option.bind_fun_some]
theorem F55_tOk (k : Nat) : TabFn Try.prog (F55_t k) := .ent (F45_q k) F45_f (.none)
theorem F55_con (k : Nat) (a0 : Int) : Contract Try.prog 55 (F55_a a0) ⟨F55 k a0, F55_r⟩ := con_of (envOk (F55_tOk k) _ _ _ _) mixed Try.func55 rfl rfl (F55_ev k a0 some)
def F55_sh : List AK := [.one (.l (.int .i64))]
def F55_p (k : Nat) : List Arg → Option CR := cle F55_sh fun x => ⟨F55 k x.1, F55_r⟩
theorem F55_q (k : Nat) : ∀ xs cr, F55_p k xs = some cr → Contract Try.prog 55 xs cr := cle_ok fun x => F55_con k _
theorem F55_f : FnOk Try.prog 55 := .of (by kernel_rfl)
/-! 57: loop.example/netstack/impl.SegmentOk$1 -/
def F57_t (k : Nat) : Tab := entT 55 (F55_p k) <| noTab
abbrev F57_E (k : Nat) : Env := env (F57_t k) noHint .own [] k
abbrev F57_a (a0_0 a0_1 : Int) : List Arg := [.agg [.l (.v (.int .i64 a0_0)), .l (.v (.int .i64 a0_1))]]
def F57_r (r : Bool) : A × List (List Leaf) := (.one (.v (.bool r)), [])
def F57 (k : Nat) (a0_0 a0_1 : Int) : Option (Bool) := (F55 k a0_0).bind fun b1 => cond (!b1) (some true) ((F55 k a0_1).bind fun b2 => some (!b2))
theorem F57_st {β : Type} (k : Nat) (a0_0 a0_1 : Int) (K : A × List (List Leaf) → Option β) : evalF (F57_E k) Try.f57 (F57_a a0_0 a0_1) K =
    (F55 k a0_0).bind fun b1 => cond (!b1) (K (.one (.v (.bool true)), [])) ((F55 k a0_1).bind fun b2 => K (.one (.v (.bool (!b2))), [])) := by kernel_rfl
theorem F57_ev {β : Type} (k : Nat) (a0_0 a0_1 : Int) (K : A × List (List Leaf) → Option β) : evalF (F57_E k) Try.f57 (F57_a a0_0 a0_1) K = (F57 k a0_0 a0_1).bind fun r => K (F57_r r) := by
  rw [F57_st, F57]
  simp only [F57_r, bind_cond, Option.bind_assoc, Option.bind_some, Option.bind_none, Option.bind_fun_some]
theorem F57_tOk (k : Nat) : TabFn Try.prog (F57_t k) := .ent (F55_q k) F55_f (.none)
theorem F57_con (k : Nat) (a0_0 a0_1 : Int) : Contract Try.prog 57 (F57_a a0_0 a0_1) ⟨F57 k a0_0 a0_1, F57_r⟩ := con_of (envOk (F57_tOk k) _ _ _ _) mixed Try.func57 rfl rfl (F57_ev k a0_0 a0_1 some)
def F57_sh : List AK := [.agg [.l (.int .i64), .l (.int .i64)]]
def F57_p (k : Nat) : List Arg → Option CR := cle F57_sh fun x => ⟨F57 k x.1.1 x.1.2.1, F57_r⟩
theorem F57_q (k : Nat) : ∀ xs cr, F57_p k xs = some cr → Contract Try.prog 57 xs cr := cle_ok fun x => F57_con k _ _
theorem F57_f : FnOk Try.prog 57 := .of (by kernel_rfl)
/-! 90: slices.IndexFunc[[]loop.example/netstack/impl.Range,loop.example/netstack/impl.Range] -/
def F90_h : Nat → Hint
  | 0 => ⟨[(0, .plain), (1, .plain), (7, .plain), (8, .plain)], []⟩
  | _ => ⟨[], []⟩
def F90_t (k : Nat) : Tab := entT 57 (F57_p k) <| noTab
abbrev F90_E (k : Nat) : Env := env (F90_t k) F90_h .own [] k
abbrev F90_a (a0 : List (den rng)) : List Arg := [.one (.l (.s .ro rng a0)), .one (.fn 57 [])]
def F90_r (r : Int) : A × List (List Leaf) := (.one (.v (.int .i64 r)), [])
def F90_s0 (a0 : List (den rng)) (x8_0 : Int) : St := ⟨(.one (.s .ro rng a0)) :: (.one (.fn 57 [])) :: dz 5 ((.one (.v (.int .i64 ((a0.length : Nat) : Int)))) :: (.one (.v (.int .i64 x8_0))) :: dz 10 []), []⟩
def F90_l0_T {β : Type} (k : Nat) (a0 : List (den rng)) (NX : Int → Option β) (RET : Int → Option β) (x8_0 : Int) : Option β := cond (decide (x8_0 < ((a0.length : Nat) : Int))) (cond (decide (0 ≤ x8_0)) (cond (decide (x8_0 < ((a0.length : Nat) : Int))) ((F57 k ((atI a0 x8_0).1) ((atI a0 x8_0).2)).bind fun b1 => cond b1 (RET x8_0) (NX (IntKind.i64.wrap (x8_0 + 1)))) none) none) (RET (-1))
def F90_l0 (k : Nat) (a0 : List (den rng)) : Nat → Int → Option (Int)
  | 0, _ => none
  | n + 1, x8_0 => F90_l0_T k a0 (fun x8_0 => F90_l0 k a0 n x8_0) some x8_0
theorem F90_l0_rd {β : Type} (k n : Nat) (a0 : List (den rng)) (x8_0 : Int) (K : A × List (List Leaf) → Option β) :
    loopG (F90_E k) Try.f90 [1, 0, 1, 0] 0 (kontAt (F90_E k) [1, 0, 1, 0] (bodyOf Try.f90) 0 (endC (F90_E k) Try.f90 (F90_a a0) K)) (n + 1) (F90_s0 a0 x8_0) =
    F90_l0_T k a0 (fun x8_0 => loopG (F90_E k) Try.f90 [1, 0, 1, 0] 0 (kontAt (F90_E k) [1, 0, 1, 0] (bodyOf Try.f90) 0 (endC (F90_E k) Try.f90 (F90_a a0) K)) n (F90_s0 a0 x8_0)) (fun r => K (F90_r r)) x8_0 := by kernel_rfl
theorem F90_l0_lp {β : Type} (k : Nat) (a0 : List (den rng)) (K : A × List (List Leaf) → Option β) (n : Nat) : ∀ (x8_0 : Int), loopG (F90_E k) Try.f90 [1, 0, 1, 0] 0 (kontAt (F90_E k) [1, 0, 1, 0] (bodyOf Try.f90) 0 (endC (F90_E k) Try.f90 (F90_a a0) K)) n (F90_s0 a0 x8_0) =
    (F90_l0 k a0 n x8_0).bind fun r => K (F90_r r) := by
  induction n with
  | zero => intros; rfl
  | succ n ih =>
    intros
    rw [F90_l0_rd, F90_l0]
    simp only [F90_l0_T, bind_cond, Option.bind_assoc, Option.bind_some, Option.bind_none, Option.bind_fun_some, ih]
def F90_T {β : Type} (k : Nat) (a0 : List (den rng)) (LP0 : Int → Option β) : Option β := LP0 0
def F90 (k : Nat) (a0 : List (den rng)) : Option (Int) := F90_T k a0 (fun x8_0 => F90_l0 k a0 k x8_0)
theorem F90_st {β : Type} (k : Nat) (a0 : List (den rng)) (K : A × List (List Leaf) → Option β) : evalF (F90_E k) Try.f90 (F90_a a0) K =
    F90_T k a0 (fun x8_0 => loopG (F90_E k) Try.f90 [1, 0, 1, 0] 0 (kontAt (F90_E k) [1, 0, 1, 0] (bodyOf Try.f90) 0 (endC (F90_E k) Try.f90 (F90_a a0) K)) k (F90_s0 a0 x8_0)) := by kernel_rfl
theorem F90_ev {β : Type} (k : Nat) (a0 : List (den rng)) (K : A × List (List Leaf) → Option β) : evalF (F90_E k) Try.f90 (F90_a a0) K = (F90 k a0).bind fun r => K (F90_r r) := by
  rw [F90_st, F90]
  simp only [F90_T, bind_cond, Option.bind_assoc, Option.bind_some, Option.bind_none, Option.bind_fun_some, F90_l0_lp]
theorem F90_tOk (k : Nat) : TabFn Try.prog (F90_t k) := .ent (F57_q k) F57_f (.none)
theorem F90_con (k : Nat) (a0 : List (den rng)) : Contract Try.prog 90 (F90_a a0) ⟨F90 k a0, F90_r⟩ := con_of (envOk (F90_tOk k) _ _ _ _) mixed Try.func90 rfl rfl (F90_ev k a0 some)
def F90_sh : List AK := [.one (.l (.sl .ro rng)), .one (.fn 57)]
def F90_p (k : Nat) : List Arg → Option CR := cle F90_sh fun x => ⟨F90 k x.1, F90_r⟩
theorem F90_q (k : Nat) : ∀ xs cr, F90_p k xs = some cr → Contract Try.prog 90 xs cr := cle_ok fun x => F90_con k _
theorem F90_f : FnOk Try.prog 90 := .of (by kernel_rfl)
/-! 56: slices.ContainsFunc[[]loop.example/netstack/impl.Range,loop.example/netstack/impl.Range] -/
def F56_t (k : Nat) : Tab := entT 90 (F90_p k) <| noTab
abbrev F56_E (k : Nat) : Env := env (F56_t k) noHint .own [] k
abbrev F56_a (a0 : List (den rng)) : List Arg := [.one (.l (.s .ro rng a0)), .one (.fn 57 [])]
def F56_r (r : Bool) : A × List (List Leaf) := (.one (.v (.bool r)), [])
def F56 (k : Nat) (a0 : List (den rng)) : Option (Bool) := (F90 k a0).bind fun b1 => some (decide (b1 ≥ 0))
theorem F56_st {β : Type} (k : Nat) (a0 : List (den rng)) (K : A × List (List Leaf) → Option β) : evalF (F56_E k) Try.f56 (F56_a a0) K =
    (F90 k a0).bind fun b1 => K (.one (.v (.bool (decide (b1 ≥ 0)))), []) := by kernel_rfl
theorem F56_ev {β : Type} (k : Nat) (a0 : List (den rng)) (K : A × List (List Leaf) → Option β) : evalF (F56_E k) Try.f56 (F56_a a0) K = (F56 k a0).bind fun r => K (F56_r r) := by
  rw [F56_st, F56]
  simp only [F56_r, bind_cond, Option.bind_assoc, Option.bind_some, Option.bind_none, Option.bind_fun_some]
theorem F56_tOk (k : Nat) : TabFn Try.prog (F56_t k) := .ent (F90_q k) F90_f (.none)
theorem F56_con (k : Nat) (a0 : List (den rng)) : Contract Try.prog 56 (F56_a a0) ⟨F56 k a0, F56_r⟩ := con_of (envOk (F56_tOk k) _ _ _ _) mixed Try.func56 rfl rfl (F56_ev k a0 some)
def F56_sh : List AK := [.one (.l (.sl .ro rng)), .one (.fn 57)]
def F56_p (k : Nat) : List Arg → Option CR := cle F56_sh fun x => ⟨F56 k x.1, F56_r⟩
theorem F56_q (k : Nat) : ∀ xs cr, F56_p k xs = some cr → Contract Try.prog 56 xs cr := cle_ok fun x => F56_con k _
theorem F56_f : FnOk Try.prog 56 := .of (by kernel_rfl)
/-! 14: loop.example/netstack/impl.SegmentOk -/
def F14_t (k : Nat) : Tab := entT 54 (F54_p k) <| entT 55 (F55_p k) <| entT 45 (F45_p k) <| entT 56 (F56_p k) <| noTab
abbrev F14_E (k : Nat) : Env := env (F14_t k) noHint .own [] k
abbrev F14_a (a0_0 a0_1 a0_2 a0_3 a0_4 : Int) (a0_5 a0_6 a0_7 a0_8 : Bool) (a0_9 : List (den rng)) (a0_10 : List (den (.int .u8))) : List Arg := [.agg [.l (.v (.int .i64 a0_0)), .l (.v (.int .i64 a0_1)), .l (.v (.int .i64 a0_2)), .l (.v (.int .i64 a0_3)), .l (.v (.int .i64 a0_4)), .l (.v (.bool a0_5)), .l (.v (.bool a0_6)), .l (.v (.bool a0_7)), .l (.v (.bool a0_8)), .l (.s .ro rng a0_9), .l (.s .ro (.int .u8) a0_10)]]
def F14_r (r : Bool) : A × List (List Leaf) := (.one (.v (.bool r)), [])
def F14_T {β : Type} (k : Nat) (a0_0 a0_1 a0_2 a0_3 a0_4 : Int) (a0_5 a0_6 a0_7 a0_8 : Bool) (a0_9 : List (den rng)) (a0_10 : List (den (.int .u8))) (RET : Bool → Option β) : Option β := (F54 k a0_0).bind fun b1 => cond (!b1) (RET false) ((F54 k a0_1).bind fun b2 => cond (!b2) (RET false) ((F55 k a0_2).bind fun b3 => cond (!b3) (RET false) ((F55 k a0_3).bind fun b4 => cond (!b4) (RET false) ((F45 k a0_4 0 255).bind fun b5 => cond (!b5) (RET false) (cond (decide (((a0_9.length : Nat) : Int) > 2)) (RET false) (cond (decide (((a0_10.length : Nat) : Int) > 12)) (RET false) ((F56 k a0_9).bind fun b6 => cond b6 (RET false) (cond (!a0_6) (cond (a0_3 != 0) (RET false) (cond (a0_4 != 0) (RET false) (cond (decide (((a0_9.length : Nat) : Int) > 0)) (RET false) (cond (!a0_8) (RET true) (cond (!a0_5) (cond (!a0_7) (RET (((a0_10.length : Nat) : Int) == 0)) (RET false)) (RET false)))))) (cond (!a0_8) (RET true) (cond (!a0_5) (cond (!a0_7) (RET (((a0_10.length : Nat) : Int) == 0)) (RET false)) (RET false)))))))))))
def F14 (k : Nat) (a0_0 a0_1 a0_2 a0_3 a0_4 : Int) (a0_5 a0_6 a0_7 a0_8 : Bool) (a0_9 : List (den rng)) (a0_10 : List (den (.int .u8))) : Option (Bool) := F14_T k a0_0 a0_1 a0_2 a0_3 a0_4 a0_5 a0_6 a0_7 a0_8 a0_9 a0_10 some
theorem F14_st {β : Type} (k : Nat) (a0_0 a0_1 a0_2 a0_3 a0_4 : Int) (a0_5 a0_6 a0_7 a0_8 : Bool) (a0_9 : List (den rng)) (a0_10 : List (den (.int .u8))) (K : A × List (List Leaf) → Option β) : evalF (F14_E k) Try.f14 (F14_a a0_0 a0_1 a0_2 a0_3 a0_4 a0_5 a0_6 a0_7 a0_8 a0_9 a0_10) K =
    F14_T k a0_0 a0_1 a0_2 a0_3 a0_4 a0_5 a0_6 a0_7 a0_8 a0_9 a0_10 (fun r => K (F14_r r)) := by kernel_rfl
theorem F14_ev {β : Type} (k : Nat) (a0_0 a0_1 a0_2 a0_3 a0_4 : Int) (a0_5 a0_6 a0_7 a0_8 : Bool) (a0_9 : List (den rng)) (a0_10 : List (den (.int .u8))) (K : A × List (List Leaf) → Option β) : evalF (F14_E k) Try.f14 (F14_a a0_0 a0_1 a0_2 a0_3 a0_4 a0_5 a0_6 a0_7 a0_8 a0_9 a0_10) K = (F14 k a0_0 a0_1 a0_2 a0_3 a0_4 a0_5 a0_6 a0_7 a0_8 a0_9 a0_10).bind fun r => K (F14_r r) := by
  rw [F14_st, F14]
  simp only [F14_T, bind_cond, Option.bind_assoc, Option.bind_some, Option.bind_none, Option.bind_fun_some]
theorem F14_tOk (k : Nat) : TabFn Try.prog (F14_t k) := .ent (F54_q k) F54_f (.ent (F55_q k) F55_f (.ent (F45_q k) F45_f (.ent (F56_q k) F56_f (.none))))
theorem F14_con (k : Nat) (a0_0 a0_1 a0_2 a0_3 a0_4 : Int) (a0_5 a0_6 a0_7 a0_8 : Bool) (a0_9 : List (den rng)) (a0_10 : List (den (.int .u8))) : Contract Try.prog 14 (F14_a a0_0 a0_1 a0_2 a0_3 a0_4 a0_5 a0_6 a0_7 a0_8 a0_9 a0_10) ⟨F14 k a0_0 a0_1 a0_2 a0_3 a0_4 a0_5 a0_6 a0_7 a0_8 a0_9 a0_10, F14_r⟩ := con_of (envOk (F14_tOk k) _ _ _ _) mixed Try.func14 rfl rfl (F14_ev k a0_0 a0_1 a0_2 a0_3 a0_4 a0_5 a0_6 a0_7 a0_8 a0_9 a0_10 some)
def F14_sh : List AK := [.agg [.l (.int .i64), .l (.int .i64), .l (.int .i64), .l (.int .i64), .l (.int .i64), .l (.bool), .l (.bool), .l (.bool), .l (.bool), .l (.sl .ro rng), .l (.sl .ro (.int .u8))]]
def F14_p (k : Nat) : List Arg → Option CR := cle F14_sh fun x => ⟨F14 k x.1.1 x.1.2.1 x.1.2.2.1 x.1.2.2.2.1 x.1.2.2.2.2.1 x.1.2.2.2.2.2.1 x.1.2.2.2.2.2.2.1 x.1.2.2.2.2.2.2.2.1 x.1.2.2.2.2.2.2.2.2.1 x.1.2.2.2.2.2.2.2.2.2.1 x.1.2.2.2.2.2.2.2.2.2.2.1, F14_r⟩
theorem F14_q (k : Nat) : ∀ xs cr, F14_p k xs = some cr → Contract Try.prog 14 xs cr := cle_ok fun x => F14_con k _ _ _ _ _ _ _ _ _ _ _
theorem F14_f : FnOk Try.prog 14 := .of (by kernel_rfl)
/-! 113: slices.Clip[[]loop.example/netstack/impl.Range,loop.example/netstack/impl.Range] -/
abbrev F113_E (k : Nat) : Env := env noTab noHint .own [] k
abbrev F113_a (a0 : List (den rng)) : List Arg := [.one (.l (.s .own rng a0))]
def F113_r (r : List (den rng)) : A × List (List Leaf) := (.one (.s .own rng r), [])
def F113_T {β : Type} (k : Nat) (a0 : List (den rng)) (RET : List (den rng) → Option β) : Option β := cond (decide (0 ≤ ((a0.length : Nat) : Int)) && decide (((a0.length : Nat) : Int) ≤ ((a0.length : Nat) : Int))) (cond (decide (((a0.length : Nat) : Int) = ((a0.length : Nat) : Int))) (RET ((a0.take (((a0.length : Nat) : Int).toNat)).drop 0)) none) none
def F113 (k : Nat) (a0 : List (den rng)) : Option (List (den rng)) := F113_T k a0 some
theorem F113_st {β : Type} (k : Nat) (a0 : List (den rng)) (K : A × List (List Leaf) → Option β) : evalF (F113_E k) Try.f113 (F113_a a0) K =
    F113_T k a0 (fun r => K (F113_r r)) := by kernel_rfl
theorem F113_ev {β : Type} (k : Nat) (a0 : List (den rng)) (K : A × List (List Leaf) → Option β) : evalF (F113_E k) Try.f113 (F113_a a0) K = (F113 k a0).bind fun r => K (F113_r r) := by
  rw [F113_st, F113]
  simp only [F113_T, bind_cond, Option.bind_assoc, Option.bind_some, Option.bind_none, Option.bind_fun_some]
theorem F113_con (k : Nat) (a0 : List (den rng)) : Contract Try.prog 113 (F113_a a0) ⟨F113 k a0, F113_r⟩ := con_of (envOk .none _ _ _ _) mixed Try.func113 rfl rfl (F113_ev k a0 some)
def F113_sh : List AK := [.one (.l (.sl .own rng))]
def F113_p (k : Nat) : List Arg → Option CR := cle F113_sh fun x => ⟨F113 k x.1, F113_r⟩
theorem F113_q (k : Nat) : ∀ xs cr, F113_p k xs = some cr → Contract Try.prog 113 xs cr := cle_ok fun x => F113_con k _
theorem F113_f : FnOk Try.prog 113 := .of (by kernel_rfl)
/-! 87: loop.example/netstack/impl.clone[loop.example/netstack/impl.Range] -/
def F87_t (k : Nat) : Tab := entT 113 (F113_p k) <| noTab
abbrev F87_E (k : Nat) : Env := env (F87_t k) noHint .own [] k
abbrev F87_a (a0 : List (den rng)) : List Arg := [.one (.l (.s .ro rng a0))]
def F87_r (r : List (den rng)) : A × List (List Leaf) := (.one (.s .own rng r), [])
def F87_T {β : Type} (k : Nat) (a0 : List (den rng)) (RET : List (den rng) → Option β) : Option β := cond (((a0.length : Nat) : Int) == 0) (RET []) (cond (decide ((([] : List (den rng)).length + a0.length) * 16 ≤ 140737488355328)) ((F113 k ([] ++ a0)).bind fun b1 => RET b1) none)
def F87 (k : Nat) (a0 : List (den rng)) : Option (List (den rng)) := F87_T k a0 some
theorem F87_st {β : Type} (k : Nat) (a0 : List (den rng)) (K : A × List (List Leaf) → Option β) : evalF (F87_E k) Try.f87 (F87_a a0) K =
    F87_T k a0 (fun r => K (F87_r r)) := by kernel_rfl
theorem F87_ev {β : Type} (k : Nat) (a0 : List (den rng)) (K : A × List (List Leaf) → Option β) : evalF (F87_E k) Try.f87 (F87_a a0) K = (F87 k a0).bind fun r => K (F87_r r) := by
  rw [F87_st, F87]
  simp only [F87_T, bind_cond, Option.bind_assoc, Option.bind_some, Option.bind_none, Option.bind_fun_some]
theorem F87_tOk (k : Nat) : TabFn Try.prog (F87_t k) := .ent (F113_q k) F113_f (.none)
theorem F87_con (k : Nat) (a0 : List (den rng)) : Contract Try.prog 87 (F87_a a0) ⟨F87 k a0, F87_r⟩ := con_of (envOk (F87_tOk k) _ _ _ _) mixed Try.func87 rfl rfl (F87_ev k a0 some)
def F87_sh : List AK := [.one (.l (.sl .ro rng))]
def F87_p (k : Nat) : List Arg → Option CR := cle F87_sh fun x => ⟨F87 k x.1, F87_r⟩
theorem F87_q (k : Nat) : ∀ xs cr, F87_p k xs = some cr → Contract Try.prog 87 xs cr := cle_ok fun x => F87_con k _
theorem F87_f : FnOk Try.prog 87 := .of (by kernel_rfl)
/-! 114: slices.Clip[[]byte,byte] -/
abbrev F114_E (k : Nat) : Env := env noTab noHint .own [] k
abbrev F114_a (a0 : List (den (.int .u8))) : List Arg := [.one (.l (.s .own (.int .u8) a0))]
def F114_r (r : List (den (.int .u8))) : A × List (List Leaf) := (.one (.s .own (.int .u8) r), [])
def F114_T {β : Type} (k : Nat) (a0 : List (den (.int .u8))) (RET : List (den (.int .u8)) → Option β) : Option β := cond (decide (0 ≤ ((a0.length : Nat) : Int)) && decide (((a0.length : Nat) : Int) ≤ ((a0.length : Nat) : Int))) (cond (decide (((a0.length : Nat) : Int) = ((a0.length : Nat) : Int))) (RET ((a0.take (((a0.length : Nat) : Int).toNat)).drop 0)) none) none
def F114 (k : Nat) (a0 : List (den (.int .u8))) : Option (List (den (.int .u8))) := F114_T k a0 some
theorem F114_st {β : Type} (k : Nat) (a0 : List (den (.int .u8))) (K : A × List (List Leaf) → Option β) : evalF (F114_E k) Try.f114 (F114_a a0) K =
    F114_T k a0 (fun r => K (F114_r r)) := by kernel_rfl
theorem F114_ev {β : Type} (k : Nat) (a0 : List (den (.int .u8))) (K : A × List (List Leaf) → Option β) : evalF (F114_E k) Try.f114 (F114_a a0) K = (F114 k a0).bind fun r => K (F114_r r) := by
  rw [F114_st, F114]
  simp only [F114_T, bind_cond, Option.bind_assoc, Option.bind_some, Option.bind_none, Option.bind_fun_some]
theorem F114_con (k : Nat) (a0 : List (den (.int .u8))) : Contract Try.prog 114 (F114_a a0) ⟨F114 k a0, F114_r⟩ := con_of (envOk .none _ _ _ _) mixed Try.func114 rfl rfl (F114_ev k a0 some)
def F114_sh : List AK := [.one (.l (.sl .own (.int .u8)))]
def F114_p (k : Nat) : List Arg → Option CR := cle F114_sh fun x => ⟨F114 k x.1, F114_r⟩
theorem F114_q (k : Nat) : ∀ xs cr, F114_p k xs = some cr → Contract Try.prog 114 xs cr := cle_ok fun x => F114_con k _
theorem F114_f : FnOk Try.prog 114 := .of (by kernel_rfl)
/-! 88: loop.example/netstack/impl.clone[byte] -/
def F88_t (k : Nat) : Tab := entT 114 (F114_p k) <| noTab
abbrev F88_E (k : Nat) : Env := env (F88_t k) noHint .own [] k
abbrev F88_a (a0 : List (den (.int .u8))) : List Arg := [.one (.l (.s .ro (.int .u8) a0))]
def F88_r (r : List (den (.int .u8))) : A × List (List Leaf) := (.one (.s .own (.int .u8) r), [])
def F88_T {β : Type} (k : Nat) (a0 : List (den (.int .u8))) (RET : List (den (.int .u8)) → Option β) : Option β := cond (((a0.length : Nat) : Int) == 0) (RET []) (cond (decide ((([] : List (den (.int .u8))).length + a0.length) * 1 ≤ 140737488355328)) ((F114 k ([] ++ a0)).bind fun b1 => RET b1) none)
def F88 (k : Nat) (a0 : List (den (.int .u8))) : Option (List (den (.int .u8))) := F88_T k a0 some
theorem F88_st {β : Type} (k : Nat) (a0 : List (den (.int .u8))) (K : A × List (List Leaf) → Option β) : evalF (F88_E k) Try.f88 (F88_a a0) K =
    F88_T k a0 (fun r => K (F88_r r)) := by kernel_rfl
theorem F88_ev {β : Type} (k : Nat) (a0 : List (den (.int .u8))) (K : A × List (List Leaf) → Option β) : evalF (F88_E k) Try.f88 (F88_a a0) K = (F88 k a0).bind fun r => K (F88_r r) := by
  rw [F88_st, F88]
  simp only [F88_T, bind_cond, Option.bind_assoc, Option.bind_some, Option.bind_none, Option.bind_fun_some]
theorem F88_tOk (k : Nat) : TabFn Try.prog (F88_t k) := .ent (F114_q k) F114_f (.none)
theorem F88_con (k : Nat) (a0 : List (den (.int .u8))) : Contract Try.prog 88 (F88_a a0) ⟨F88 k a0, F88_r⟩ := con_of (envOk (F88_tOk k) _ _ _ _) mixed Try.func88 rfl rfl (F88_ev k a0 some)
def F88_sh : List AK := [.one (.l (.sl .ro (.int .u8)))]
def F88_p (k : Nat) : List Arg → Option CR := cle F88_sh fun x => ⟨F88 k x.1, F88_r⟩
theorem F88_q (k : Nat) : ∀ xs cr, F88_p k xs = some cr → Contract Try.prog 88 xs cr := cle_ok fun x => F88_con k _
theorem F88_f : FnOk Try.prog 88 := .of (by kernel_rfl)
/-! 46: (loop.example/netstack/impl.Segment).copy -/
def F46_t (k : Nat) : Tab := entT 87 (F87_p k) <| entT 88 (F88_p k) <| noTab
abbrev F46_E (k : Nat) : Env := env (F46_t k) noHint .own [] k
abbrev F46_a (a0_0 a0_1 a0_2 a0_3 a0_4 : Int) (a0_5 a0_6 a0_7 a0_8 : Bool) (a0_9 : List (den rng)) (a0_10 : List (den (.int .u8))) : List Arg := [.agg [.l (.v (.int .i64 a0_0)), .l (.v (.int .i64 a0_1)), .l (.v (.int .i64 a0_2)), .l (.v (.int .i64 a0_3)), .l (.v (.int .i64 a0_4)), .l (.v (.bool a0_5)), .l (.v (.bool a0_6)), .l (.v (.bool a0_7)), .l (.v (.bool a0_8)), .l (.s .ro rng a0_9), .l (.s .ro (.int .u8) a0_10)]]
def F46_r (r : Int × Int × Int × Int × Int × Bool × Bool × Bool × Bool × List (den rng) × List (den (.int .u8))) : A × List (List Leaf) := (.agg [.v (.int .i64 r.1), .v (.int .i64 r.2.1), .v (.int .i64 r.2.2.1), .v (.int .i64 r.2.2.2.1), .v (.int .i64 r.2.2.2.2.1), .v (.bool r.2.2.2.2.2.1), .v (.bool r.2.2.2.2.2.2.1), .v (.bool r.2.2.2.2.2.2.2.1), .v (.bool r.2.2.2.2.2.2.2.2.1), .s .own rng r.2.2.2.2.2.2.2.2.2.1, .s .own (.int .u8) r.2.2.2.2.2.2.2.2.2.2], [])
def F46_T {β : Type} (k : Nat) (a0_0 a0_1 a0_2 a0_3 a0_4 : Int) (a0_5 a0_6 a0_7 a0_8 : Bool) (a0_9 : List (den rng)) (a0_10 : List (den (.int .u8))) (RET : (Int × Int × Int × Int × Int × Bool × Bool × Bool × Bool × List (den rng) × List (den (.int .u8))) → Option β) : Option β := (F87 k a0_9).bind fun b1 => (F88 k a0_10).bind fun b2 => RET (a0_0, a0_1, a0_2, a0_3, a0_4, a0_5, a0_6, a0_7, a0_8, b1, b2)
def F46 (k : Nat) (a0_0 a0_1 a0_2 a0_3 a0_4 : Int) (a0_5 a0_6 a0_7 a0_8 : Bool) (a0_9 : List (den rng)) (a0_10 : List (den (.int .u8))) : Option (Int × Int × Int × Int × Int × Bool × Bool × Bool × Bool × List (den rng) × List (den (.int .u8))) := F46_T k a0_0 a0_1 a0_2 a0_3 a0_4 a0_5 a0_6 a0_7 a0_8 a0_9 a0_10 some
theorem F46_st {β : Type} (k : Nat) (a0_0 a0_1 a0_2 a0_3 a0_4 : Int) (a0_5 a0_6 a0_7 a0_8 : Bool) (a0_9 : List (den rng)) (a0_10 : List (den (.int .u8))) (K : A × List (List Leaf) → Option β) : evalF (F46_E k) Try.f46 (F46_a a0_0 a0_1 a0_2 a0_3 a0_4 a0_5 a0_6 a0_7 a0_8 a0_9 a0_10) K =
    F46_T k a0_0 a0_1 a0_2 a0_3 a0_4 a0_5 a0_6 a0_7 a0_8 a0_9 a0_10 (fun r => K (F46_r r)) := by kernel_rfl
theorem F46_ev {β : Type} (k : Nat) (a0_0 a0_1 a0_2 a0_3 a0_4 : Int) (a0_5 a0_6 a0_7 a0_8 : Bool) (a0_9 : List (den rng)) (a0_10 : List (den (.int .u8))) (K : A × List (List Leaf) → Option β) : evalF (F46_E k) Try.f46 (F46_a a0_0 a0_1 a0_2 a0_3 a0_4 a0_5 a0_6 a0_7 a0_8 a0_9 a0_10) K = (F46 k a0_0 a0_1 a0_2 a0_3 a0_4 a0_5 a0_6 a0_7 a0_8 a0_9 a0_10).bind fun r => K (F46_r r) := by
  rw [F46_st, F46]
  simp only [F46_T, bind_cond, Option.bind_assoc, Option.bind_some, Option.bind_none, Option.bind_fun_some]
theorem F46_tOk (k : Nat) : TabFn Try.prog (F46_t k) := .ent (F87_q k) F87_f (.ent (F88_q k) F88_f (.none))
theorem F46_con (k : Nat) (a0_0 a0_1 a0_2 a0_3 a0_4 : Int) (a0_5 a0_6 a0_7 a0_8 : Bool) (a0_9 : List (den rng)) (a0_10 : List (den (.int .u8))) : Contract Try.prog 46 (F46_a a0_0 a0_1 a0_2 a0_3 a0_4 a0_5 a0_6 a0_7 a0_8 a0_9 a0_10) ⟨F46 k a0_0 a0_1 a0_2 a0_3 a0_4 a0_5 a0_6 a0_7 a0_8 a0_9 a0_10, F46_r⟩ := con_of (envOk (F46_tOk k) _ _ _ _) mixed Try.func46 rfl rfl (F46_ev k a0_0 a0_1 a0_2 a0_3 a0_4 a0_5 a0_6 a0_7 a0_8 a0_9 a0_10 some)
def F46_sh : List AK := [.agg [.l (.int .i64), .l (.int .i64), .l (.int .i64), .l (.int .i64), .l (.int .i64), .l (.bool), .l (.bool), .l (.bool), .l (.bool), .l (.sl .ro rng), .l (.sl .ro (.int .u8))]]
def F46_p (k : Nat) : List Arg → Option CR := cle F46_sh fun x => ⟨F46 k x.1.1 x.1.2.1 x.1.2.2.1 x.1.2.2.2.1 x.1.2.2.2.2.1 x.1.2.2.2.2.2.1 x.1.2.2.2.2.2.2.1 x.1.2.2.2.2.2.2.2.1 x.1.2.2.2.2.2.2.2.2.1 x.1.2.2.2.2.2.2.2.2.2.1 x.1.2.2.2.2.2.2.2.2.2.2.1, F46_r⟩
theorem F46_q (k : Nat) : ∀ xs cr, F46_p k xs = some cr → Contract Try.prog 46 xs cr := cle_ok fun x => F46_con k _ _ _ _ _ _ _ _ _ _ _
theorem F46_f : FnOk Try.prog 46 := .of (by kernel_rfl)
/-! 48: loop.example/netstack/impl.SeqOf -/
abbrev F48_E (k : Nat) : Env := env noTab noHint .own [] k
abbrev F48_a (a0 : Int) : List Arg := [.one (.l (.v (.int .i64 a0)))]
def F48_r (r : Int) : A × List (List Leaf) := (.one (.v (.int .i64 r)), [])
def F48 (k : Nat) (a0 : Int) : Option (Int) := some ((IntKind.i64.wrap ((a0.tmod 65536) + 65536)).tmod 65536)
theorem F48_st {β : Type} (k : Nat) (a0 : Int) (K : A × List (List Leaf) → Option β) : evalF (F48_E k) Try.f48 (F48_a a0) K =
    K (.one (.v (.int .i64 ((IntKind.i64.wrap ((a0.tmod 65536) + 65536)).tmod 65536))), []) := by kernel_rfl
theorem F48_ev {β : Type} (k : Nat) (a0 : Int) (K : A × List (List Leaf) → Option β) : evalF (F48_E k) Try.f48 (F48_a a0) K = (F48 k a0).bind fun r => K (F48_r r) := by
  rw [F48_st, F48]
  simp only [F48_r, bind_cond, Option.bind_assoc, Option.bind_some, Option.bind_none, Option.bind_fun_some]
theorem F48_con (k : Nat) (a0 : Int) : Contract Try.prog 48 (F48_a a0) ⟨F48 k a0, F48_r⟩ := con_of (envOk .none _ _ _ _) mixed Try.func48 rfl rfl (F48_ev k a0 some)
def F48_sh : List AK := [.one (.l (.int .i64))]
def F48_p (k : Nat) : List Arg → Option CR := cle F48_sh fun x => ⟨F48 k x.1, F48_r⟩
theorem F48_q (k : Nat) : ∀ xs cr, F48_p k xs = some cr → Contract Try.prog 48 xs cr := cle_ok fun x => F48_con k _
theorem F48_f : FnOk Try.prog 48 := .of (by kernel_rfl)
/-! 59: loop.example/netstack/impl.bit -/
abbrev F59_E (k : Nat) : Env := env noTab noHint .own [] k
abbrev F59_a (a0 : Bool) (a1 : Int) : List Arg := [.one (.l (.v (.bool a0))), .one (.l (.v (.int .i64 a1)))]
def F59_r (r : Int) : A × List (List Leaf) := (.one (.v (.int .i64 r)), [])
def F59 (k : Nat) (a0 : Bool) (a1 : Int) : Option (Int) := cond a0 (some a1) (some 0)
theorem F59_st {β : Type} (k : Nat) (a0 : Bool) (a1 : Int) (K : A × List (List Leaf) → Option β) : evalF (F59_E k) Try.f59 (F59_a a0 a1) K =
    cond a0 (K (.one (.v (.int .i64 a1)), [])) (K (.one (.v (.int .i64 0)), [])) := by kernel_rfl
theorem F59_ev {β : Type} (k : Nat) (a0 : Bool) (a1 : Int) (K : A × List (List Leaf) → Option β) : evalF (F59_E k) Try.f59 (F59_a a0 a1) K = (F59 k a0 a1).bind fun r => K (F59_r r) := by
  rw [F59_st, F59]
  simp only [F59_r, bind_cond, Option.bind_assoc, Option.bind_some, Option.bind_none, Option.bind_fun_some]
theorem F59_con (k : Nat) (a0 : Bool) (a1 : Int) : Contract Try.prog 59 (F59_a a0 a1) ⟨F59 k a0 a1, F59_r⟩ := con_of (envOk .none _ _ _ _) mixed Try.func59 rfl rfl (F59_ev k a0 a1 some)
def F59_sh : List AK := [.one (.l (.bool)), .one (.l (.int .i64))]
def F59_p (k : Nat) : List Arg → Option CR := cle F59_sh fun x => ⟨F59 k x.1 x.2.1, F59_r⟩
theorem F59_q (k : Nat) : ∀ xs cr, F59_p k xs = some cr → Contract Try.prog 59 xs cr := cle_ok fun x => F59_con k _ _
theorem F59_f : FnOk Try.prog 59 := .of (by kernel_rfl)
/-! 16: loop.example/netstack/impl.SegmentLong -/
def F16_t (k : Nat) : Tab := entT 59 (F59_p k) <| noTab
abbrev F16_E (k : Nat) : Env := env (F16_t k) noHint .own [] k
abbrev F16_a (a0_0 a0_1 a0_2 a0_3 a0_4 : Int) (a0_5 a0_6 a0_7 a0_8 : Bool) (a0_9 : List (den rng)) (a0_10 : List (den (.int .u8))) : List Arg := [.agg [.l (.v (.int .i64 a0_0)), .l (.v (.int .i64 a0_1)), .l (.v (.int .i64 a0_2)), .l (.v (.int .i64 a0_3)), .l (.v (.int .i64 a0_4)), .l (.v (.bool a0_5)), .l (.v (.bool a0_6)), .l (.v (.bool a0_7)), .l (.v (.bool a0_8)), .l (.s .ro rng a0_9), .l (.s .ro (.int .u8) a0_10)]]
def F16_r (r : Int) : A × List (List Leaf) := (.one (.v (.int .i64 r)), [])
def F16_T {β : Type} (k : Nat) (a0_0 a0_1 a0_2 a0_3 a0_4 : Int) (a0_5 a0_6 a0_7 a0_8 : Bool) (a0_9 : List (den rng)) (a0_10 : List (den (.int .u8))) (RET : Int → Option β) : Option β := (F59 k a0_5 1).bind fun b1 => (F59 k a0_7 1).bind fun b2 => RET (IntKind.i64.wrap ((IntKind.i64.wrap (((a0_10.length : Nat) : Int) + b1)) + b2))
def F16 (k : Nat) (a0_0 a0_1 a0_2 a0_3 a0_4 : Int) (a0_5 a0_6 a0_7 a0_8 : Bool) (a0_9 : List (den rng)) (a0_10 : List (den (.int .u8))) : Option (Int) := F16_T k a0_0 a0_1 a0_2 a0_3 a0_4 a0_5 a0_6 a0_7 a0_8 a0_9 a0_10 some
theorem F16_st {β : Type} (k : Nat) (a0_0 a0_1 a0_2 a0_3 a0_4 : Int) (a0_5 a0_6 a0_7 a0_8 : Bool) (a0_9 : List (den rng)) (a0_10 : List (den (.int .u8))) (K : A × List (List Leaf) → Option β) : evalF (F16_E k) Try.f16 (F16_a a0_0 a0_1 a0_2 a0_3 a0_4 a0_5 a0_6 a0_7 a0_8 a0_9 a0_10) K =
    F16_T k a0_0 a0_1 a0_2 a0_3 a0_4 a0_5 a0_6 a0_7 a0_8 a0_9 a0_10 (fun r => K (F16_r r)) := by kernel_rfl
theorem F16_ev {β : Type} (k : Nat) (a0_0 a0_1 a0_2 a0_3 a0_4 : Int) (a0_5 a0_6 a0_7 a0_8 : Bool) (a0_9 : List (den rng)) (a0_10 : List (den (.int .u8))) (K : A × List (List Leaf) → Option β) : evalF (F16_E k) Try.f16 (F16_a a0_0 a0_1 a0_2 a0_3 a0_4 a0_5 a0_6 a0_7 a0_8 a0_9 a0_10) K = (F16 k a0_0 a0_1 a0_2 a0_3 a0_4 a0_5 a0_6 a0_7 a0_8 a0_9 a0_10).bind fun r => K (F16_r r) := by
  rw [F16_st, F16]
  simp only [F16_T, bind_cond, Option.bind_assoc, Option.bind_some, Option.bind_none, Option.bind_fun_some]
theorem F16_tOk (k : Nat) : TabFn Try.prog (F16_t k) := .ent (F59_q k) F59_f (.none)
theorem F16_con (k : Nat) (a0_0 a0_1 a0_2 a0_3 a0_4 : Int) (a0_5 a0_6 a0_7 a0_8 : Bool) (a0_9 : List (den rng)) (a0_10 : List (den (.int .u8))) : Contract Try.prog 16 (F16_a a0_0 a0_1 a0_2 a0_3 a0_4 a0_5 a0_6 a0_7 a0_8 a0_9 a0_10) ⟨F16 k a0_0 a0_1 a0_2 a0_3 a0_4 a0_5 a0_6 a0_7 a0_8 a0_9 a0_10, F16_r⟩ := con_of (envOk (F16_tOk k) _ _ _ _) mixed Try.func16 rfl rfl (F16_ev k a0_0 a0_1 a0_2 a0_3 a0_4 a0_5 a0_6 a0_7 a0_8 a0_9 a0_10 some)
def F16_sh : List AK := [.agg [.l (.int .i64), .l (.int .i64), .l (.int .i64), .l (.int .i64), .l (.int .i64), .l (.bool), .l (.bool), .l (.bool), .l (.bool), .l (.sl .ro rng), .l (.sl .ro (.int .u8))]]
def F16_p (k : Nat) : List Arg → Option CR := cle F16_sh fun x => ⟨F16 k x.1.1 x.1.2.1 x.1.2.2.1 x.1.2.2.2.1 x.1.2.2.2.2.1 x.1.2.2.2.2.2.1 x.1.2.2.2.2.2.2.1 x.1.2.2.2.2.2.2.2.1 x.1.2.2.2.2.2.2.2.2.1 x.1.2.2.2.2.2.2.2.2.2.1 x.1.2.2.2.2.2.2.2.2.2.2.1, F16_r⟩
theorem F16_q (k : Nat) : ∀ xs cr, F16_p k xs = some cr → Contract Try.prog 16 xs cr := cle_ok fun x => F16_con k _ _ _ _ _ _ _ _ _ _ _
theorem F16_f : FnOk Try.prog 16 := .of (by kernel_rfl)
/-! 49: slices.Clip[[]loop.example/netstack/impl.Segment,loop.example/netstack/impl.Segment] -/
abbrev F49_E (k : Nat) : Env := env noTab noHint .own [] k
abbrev F49_a (a0 : List (den seg)) : List Arg := [.one (.l (.s .own seg a0))]
def F49_r (r : List (den seg)) : A × List (List Leaf) := (.one (.s .own seg r), [])
def F49_T {β : Type} (k : Nat) (a0 : List (den seg)) (RET : List (den seg) → Option β) : Option β := cond (decide (0 ≤ ((a0.length : Nat) : Int)) && decide (((a0.length : Nat) : Int) ≤ ((a0.length : Nat) : Int))) (cond (decide (((a0.length : Nat) : Int) = ((a0.length : Nat) : Int))) (RET ((a0.take (((a0.length : Nat) : Int).toNat)).drop 0)) none) none
def F49 (k : Nat) (a0 : List (den seg)) : Option (List (den seg)) := F49_T k a0 some
theorem F49_st {β : Type} (k : Nat) (a0 : List (den seg)) (K : A × List (List Leaf) → Option β) : evalF (F49_E k) Try.f49 (F49_a a0) K =
    F49_T k a0 (fun r => K (F49_r r)) := by kernel_rfl
theorem F49_ev {β : Type} (k : Nat) (a0 : List (den seg)) (K : A × List (List Leaf) → Option β) : evalF (F49_E k) Try.f49 (F49_a a0) K = (F49 k a0).bind fun r => K (F49_r r) := by
  rw [F49_st, F49]
  simp only [F49_T, bind_cond, Option.bind_assoc, Option.bind_some, Option.bind_none, Option.bind_fun_some]
theorem F49_con (k : Nat) (a0 : List (den seg)) : Contract Try.prog 49 (F49_a a0) ⟨F49 k a0, F49_r⟩ := con_of (envOk .none _ _ _ _) mixed Try.func49 rfl rfl (F49_ev k a0 some)
def F49_sh : List AK := [.one (.l (.sl .own seg))]
def F49_p (k : Nat) : List Arg → Option CR := cle F49_sh fun x => ⟨F49 k x.1, F49_r⟩
theorem F49_q (k : Nat) : ∀ xs cr, F49_p k xs = some cr → Contract Try.prog 49 xs cr := cle_ok fun x => F49_con k _
theorem F49_f : FnOk Try.prog 49 := .of (by kernel_rfl)
/-! 11: loop.example/netstack/impl.SegmentCut -/
def F11_h : Nat → Hint
  | 0 => ⟨[(2, .plain), (5, .plain), (6, .plain)], [(2000, .plain), (2001, .plain), (2002, .plain), (2003, .plain), (2004, .plain), (2005, .plain), (2006, .plain), (2007, .plain), (2008, .plain), (2009, .plain), (2010, .plain), (5000, .own .own seg []), (6000, .plain)]⟩
  | _ => ⟨[], []⟩
def F11_t (k : Nat) : Tab := entT 14 (F14_p k) <| entT 45 (F45_p k) <| entT 46 (F46_p k) <| entT 48 (F48_p k) <| entT 16 (F16_p k) <| entT 49 (F49_p k) <| noTab
abbrev F11_E (k : Nat) : Env := env (F11_t k) F11_h .own [] k
abbrev F11_a (a0_0 a0_1 a0_2 a0_3 a0_4 : Int) (a0_5 a0_6 a0_7 a0_8 : Bool) (a0_9 : List (den rng)) (a0_10 : List (den (.int .u8))) (a1 : Int) : List Arg := [.agg [.l (.v (.int .i64 a0_0)), .l (.v (.int .i64 a0_1)), .l (.v (.int .i64 a0_2)), .l (.v (.int .i64 a0_3)), .l (.v (.int .i64 a0_4)), .l (.v (.bool a0_5)), .l (.v (.bool a0_6)), .l (.v (.bool a0_7)), .l (.v (.bool a0_8)), .l (.s .ro rng a0_9), .l (.s .ro (.int .u8) a0_10)], .one (.l (.v (.int .i64 a1)))]
def F11_r (r : List (den seg)) : A × List (List Leaf) := (.one (.s .own seg r), [])
def F11_s0 (a0_0 a0_1 a0_2 a0_3 a0_4 : Int) (a0_5 a0_6 a0_7 a0_8 : Bool) (a0_9 : List (den rng)) (a0_10 : List (den (.int .u8))) (a1 : Int) (m5000_0 : List (den seg)) (m6000_0 : Int) : St := ⟨(.one .d) :: (.one .d) :: (.one (.ptr (.cell 2000) 11 0)) :: (.one .d) :: (.one .d) :: (.one (.ptr (.cell 5000) 1 0)) :: (.one (.ptr (.cell 6000) 1 0)) :: dz 59 [], [(2000, ⟨.v (.int .i64 a0_0), 0, 0⟩), (2001, ⟨.v (.int .i64 a0_1), 0, 0⟩), (2002, ⟨.v (.int .i64 a0_2), 0, 0⟩), (2003, ⟨.v (.int .i64 a0_3), 0, 0⟩), (2004, ⟨.v (.int .i64 a0_4), 0, 0⟩), (2005, ⟨.v (.bool a0_5), 0, 0⟩), (2006, ⟨.v (.bool a0_6), 0, 0⟩), (2007, ⟨.v (.bool a0_7), 0, 0⟩), (2008, ⟨.v (.bool a0_8), 0, 0⟩), (2009, ⟨.s .ro rng a0_9, 0, 0⟩), (2010, ⟨.s .ro (.int .u8) a0_10, 0, 0⟩), (5000, ⟨.s .own seg m5000_0, 0, 0⟩), (6000, ⟨.v (.int .i64 m6000_0), 0, 0⟩)]⟩
def F11_l0 (k : Nat) (a0_0 a0_1 a0_2 a0_3 a0_4 : Int) (a0_5 a0_6 a0_7 a0_8 : Bool) (a0_9 : List (den rng)) (a0_10 : List (den (.int .u8))) (a1 : Int) : List (List (den (.int .u8))) → List (den seg) → Int → Option (List (den seg))
  | [], m5000_0, m6000_0 => cond (decide (0 ≤ (IntKind.i64.wrap (((m5000_0.length : Nat) : Int) - 1)))) (cond (decide ((IntKind.i64.wrap (((m5000_0.length : Nat) : Int) - 1)) < ((m5000_0.length : Nat) : Int))) ((sto (m5000_0.set ((IntKind.i64.wrap (((m5000_0.length : Nat) : Int) - 1)).toNat) ((atI m5000_0 (IntKind.i64.wrap (((m5000_0.length : Nat) : Int) - 1))).1, ((atI m5000_0 (IntKind.i64.wrap (((m5000_0.length : Nat) : Int) - 1))).2).1, (((atI m5000_0 (IntKind.i64.wrap (((m5000_0.length : Nat) : Int) - 1))).2).2).1, ((((atI m5000_0 (IntKind.i64.wrap (((m5000_0.length : Nat) : Int) - 1))).2).2).2).1, (((((atI m5000_0 (IntKind.i64.wrap (((m5000_0.length : Nat) : Int) - 1))).2).2).2).2).1, ((((((atI m5000_0 (IntKind.i64.wrap (((m5000_0.length : Nat) : Int) - 1))).2).2).2).2).2).1, (((((((atI m5000_0 (IntKind.i64.wrap (((m5000_0.length : Nat) : Int) - 1))).2).2).2).2).2).2).1, a0_7, (((((((((atI m5000_0 (IntKind.i64.wrap (((m5000_0.length : Nat) : Int) - 1))).2).2).2).2).2).2).2).2).1, ((((((((((atI m5000_0 (IntKind.i64.wrap (((m5000_0.length : Nat) : Int) - 1))).2).2).2).2).2).2).2).2).2)))).bind fun b9 => (F49 k b9).bind fun b10 => some b10) none) none
  | z0_0 :: r, m5000_0, m6000_0 => (F48 k m6000_0).bind fun b4 => cond a0_5 ((F16 k a0_0 a0_1 b4 a0_3 a0_4 (((m5000_0.length : Nat) : Int) == 0) a0_6 false a0_8 a0_9 z0_0).bind fun b5 => (F46 k a0_0 a0_1 b4 a0_3 a0_4 (((m5000_0.length : Nat) : Int) == 0) a0_6 false a0_8 a0_9 z0_0).bind fun b6 => cond (decide ((m5000_0.length + [b6].length) * 96 ≤ 140737488355328)) (F11_l0 k a0_0 a0_1 a0_2 a0_3 a0_4 a0_5 a0_6 a0_7 a0_8 a0_9 a0_10 a1 r (m5000_0 ++ [b6]) (IntKind.i64.wrap (m6000_0 + b5))) none) ((F16 k a0_0 a0_1 b4 a0_3 a0_4 false a0_6 false a0_8 a0_9 z0_0).bind fun b7 => (F46 k a0_0 a0_1 b4 a0_3 a0_4 false a0_6 false a0_8 a0_9 z0_0).bind fun b8 => cond (decide ((m5000_0.length + [b8].length) * 96 ≤ 140737488355328)) (F11_l0 k a0_0 a0_1 a0_2 a0_3 a0_4 a0_5 a0_6 a0_7 a0_8 a0_9 a0_10 a1 r (m5000_0 ++ [b8]) (IntKind.i64.wrap (m6000_0 + b7))) none)
theorem F11_l0_r0 {β : Type} (k : Nat) (a0_0 a0_1 a0_2 a0_3 a0_4 : Int) (a0_5 a0_6 a0_7 a0_8 : Bool) (a0_9 : List (den rng)) (a0_10 : List (den (.int .u8))) (a1 : Int) (m5000_0 : List (den seg)) (m6000_0 : Int) (K : A × List (List Leaf) → Option β) :
    rangeG (F11_E k) Try.f11 [1, 1, 1, 1, 1, 0, 1, 0] 0 31 (kontAt (F11_E k) [1, 1, 1, 1, 1, 0, 1, 0] (bodyOf Try.f11) 0 (endC (F11_E k) Try.f11 (F11_a a0_0 a0_1 a0_2 a0_3 a0_4 a0_5 a0_6 a0_7 a0_8 a0_9 a0_10 a1) K)) ([] : List (List (den (.int .u8)))) (F11_s0 a0_0 a0_1 a0_2 a0_3 a0_4 a0_5 a0_6 a0_7 a0_8 a0_9 a0_10 a1 m5000_0 m6000_0) =
    cond (decide (0 ≤ (IntKind.i64.wrap (((m5000_0.length : Nat) : Int) - 1)))) (cond (decide ((IntKind.i64.wrap (((m5000_0.length : Nat) : Int) - 1)) < ((m5000_0.length : Nat) : Int))) ((sto (m5000_0.set ((IntKind.i64.wrap (((m5000_0.length : Nat) : Int) - 1)).toNat) ((atI m5000_0 (IntKind.i64.wrap (((m5000_0.length : Nat) : Int) - 1))).1, ((atI m5000_0 (IntKind.i64.wrap (((m5000_0.length : Nat) : Int) - 1))).2).1, (((atI m5000_0 (IntKind.i64.wrap (((m5000_0.length : Nat) : Int) - 1))).2).2).1, ((((atI m5000_0 (IntKind.i64.wrap (((m5000_0.length : Nat) : Int) - 1))).2).2).2).1, (((((atI m5000_0 (IntKind.i64.wrap (((m5000_0.length : Nat) : Int) - 1))).2).2).2).2).1, ((((((atI m5000_0 (IntKind.i64.wrap (((m5000_0.length : Nat) : Int) - 1))).2).2).2).2).2).1, (((((((atI m5000_0 (IntKind.i64.wrap (((m5000_0.length : Nat) : Int) - 1))).2).2).2).2).2).2).1, a0_7, (((((((((atI m5000_0 (IntKind.i64.wrap (((m5000_0.length : Nat) : Int) - 1))).2).2).2).2).2).2).2).2).1, ((((((((((atI m5000_0 (IntKind.i64.wrap (((m5000_0.length : Nat) : Int) - 1))).2).2).2).2).2).2).2).2).2)))).bind fun b9 => (F49 k b9).bind fun b10 => K (.one (.s .own seg b10), [])) none) none := by kernel_rfl
theorem F11_l0_rd {β : Type} (k : Nat) (a0_0 a0_1 a0_2 a0_3 a0_4 : Int) (a0_5 a0_6 a0_7 a0_8 : Bool) (a0_9 : List (den rng)) (a0_10 : List (den (.int .u8))) (a1 : Int) (z0_0 : List (den (.int .u8))) (r : List (List (den (.int .u8)))) (m5000_0 : List (den seg)) (m6000_0 : Int) (K : A × List (List Leaf) → Option β) :
    rangeG (F11_E k) Try.f11 [1, 1, 1, 1, 1, 0, 1, 0] 0 31 (kontAt (F11_E k) [1, 1, 1, 1, 1, 0, 1, 0] (bodyOf Try.f11) 0 (endC (F11_E k) Try.f11 (F11_a a0_0 a0_1 a0_2 a0_3 a0_4 a0_5 a0_6 a0_7 a0_8 a0_9 a0_10 a1) K)) (z0_0 :: r) (F11_s0 a0_0 a0_1 a0_2 a0_3 a0_4 a0_5 a0_6 a0_7 a0_8 a0_9 a0_10 a1 m5000_0 m6000_0) =
    (F48 k m6000_0).bind fun b4 => cond a0_5 ((F16 k a0_0 a0_1 b4 a0_3 a0_4 (((m5000_0.length : Nat) : Int) == 0) a0_6 false a0_8 a0_9 z0_0).bind fun b5 => (F46 k a0_0 a0_1 b4 a0_3 a0_4 (((m5000_0.length : Nat) : Int) == 0) a0_6 false a0_8 a0_9 z0_0).bind fun b6 => cond (decide ((m5000_0.length + [b6].length) * 96 ≤ 140737488355328)) (rangeG (F11_E k) Try.f11 [1, 1, 1, 1, 1, 0, 1, 0] 0 31 (kontAt (F11_E k) [1, 1, 1, 1, 1, 0, 1, 0] (bodyOf Try.f11) 0 (endC (F11_E k) Try.f11 (F11_a a0_0 a0_1 a0_2 a0_3 a0_4 a0_5 a0_6 a0_7 a0_8 a0_9 a0_10 a1) K)) r (F11_s0 a0_0 a0_1 a0_2 a0_3 a0_4 a0_5 a0_6 a0_7 a0_8 a0_9 a0_10 a1 (m5000_0 ++ [b6]) (IntKind.i64.wrap (m6000_0 + b5)))) none) ((F16 k a0_0 a0_1 b4 a0_3 a0_4 false a0_6 false a0_8 a0_9 z0_0).bind fun b7 => (F46 k a0_0 a0_1 b4 a0_3 a0_4 false a0_6 false a0_8 a0_9 z0_0).bind fun b8 => cond (decide ((m5000_0.length + [b8].length) * 96 ≤ 140737488355328)) (rangeG (F11_E k) Try.f11 [1, 1, 1, 1, 1, 0, 1, 0] 0 31 (kontAt (F11_E k) [1, 1, 1, 1, 1, 0, 1, 0] (bodyOf Try.f11) 0 (endC (F11_E k) Try.f11 (F11_a a0_0 a0_1 a0_2 a0_3 a0_4 a0_5 a0_6 a0_7 a0_8 a0_9 a0_10 a1) K)) r (F11_s0 a0_0 a0_1 a0_2 a0_3 a0_4 a0_5 a0_6 a0_7 a0_8 a0_9 a0_10 a1 (m5000_0 ++ [b8]) (IntKind.i64.wrap (m6000_0 + b7)))) none) := by kernel_rfl
theorem F11_l0_lp {β : Type} (k : Nat) (a0_0 a0_1 a0_2 a0_3 a0_4 : Int) (a0_5 a0_6 a0_7 a0_8 : Bool) (a0_9 : List (den rng)) (a0_10 : List (den (.int .u8))) (a1 : Int) (K : A × List (List Leaf) → Option β) (l : List (List (den (.int .u8)))) : ∀ (m5000_0 : List (den seg)) (m6000_0 : Int), rangeG (F11_E k) Try.f11 [1, 1, 1, 1, 1, 0, 1, 0] 0 31 (kontAt (F11_E k) [1, 1, 1, 1, 1, 0, 1, 0] (bodyOf Try.f11) 0 (endC (F11_E k) Try.f11 (F11_a a0_0 a0_1 a0_2 a0_3 a0_4 a0_5 a0_6 a0_7 a0_8 a0_9 a0_10 a1) K)) l (F11_s0 a0_0 a0_1 a0_2 a0_3 a0_4 a0_5 a0_6 a0_7 a0_8 a0_9 a0_10 a1 m5000_0 m6000_0) =
    (F11_l0 k a0_0 a0_1 a0_2 a0_3 a0_4 a0_5 a0_6 a0_7 a0_8 a0_9 a0_10 a1 l m5000_0 m6000_0).bind fun r => K (F11_r r) := by
  induction l with
  | nil => intros; rw [F11_l0_r0, F11_l0]; simp only [F11_r, bind_cond, Option.bind_assoc, Option.bind_some, Option.bind_none, Option.bind_fun_some]
  | cons z r ih =>
    intros
    rw [F11_l0_rd, F11_l0]
    simp only [F11_r, bind_cond, Option.bind_assoc, Option.bind_some, Option.bind_none, Option.bind_fun_some, ih]
def F11 (k : Nat) (a0_0 a0_1 a0_2 a0_3 a0_4 : Int) (a0_5 a0_6 a0_7 a0_8 : Bool) (a0_9 : List (den rng)) (a0_10 : List (den (.int .u8))) (a1 : Int) : Option (List (den seg)) := (F14 k a0_0 a0_1 a0_2 a0_3 a0_4 a0_5 a0_6 a0_7 a0_8 a0_9 a0_10).bind fun b1 => cond (!b1) (some []) ((F45 k a1 1 12).bind fun b2 => cond (!b2) (some []) (cond (decide (((a0_10.length : Nat) : Int) ≤ a1)) ((F46 k a0_0 a0_1 a0_2 a0_3 a0_4 a0_5 a0_6 a0_7 a0_8 a0_9 a0_10).bind fun b3 => some [b3]) (cond (decide (1 ≤ a1) && decide (a1 ≤ 9223372036854775807) && decide (a0_10.length ≤ 140737488355328)) (F11_l0 k a0_0 a0_1 a0_2 a0_3 a0_4 a0_5 a0_6 a0_7 a0_8 a0_9 a0_10 a1 (pieces ((a1 : Int).toNat) a0_10) [] a0_2) none)))
theorem F11_st {β : Type} (k : Nat) (a0_0 a0_1 a0_2 a0_3 a0_4 : Int) (a0_5 a0_6 a0_7 a0_8 : Bool) (a0_9 : List (den rng)) (a0_10 : List (den (.int .u8))) (a1 : Int) (K : A × List (List Leaf) → Option β) : evalF (F11_E k) Try.f11 (F11_a a0_0 a0_1 a0_2 a0_3 a0_4 a0_5 a0_6 a0_7 a0_8 a0_9 a0_10 a1) K =
    (F14 k a0_0 a0_1 a0_2 a0_3 a0_4 a0_5 a0_6 a0_7 a0_8 a0_9 a0_10).bind fun b1 => cond (!b1) (K (.one (.s .own seg []), [])) ((F45 k a1 1 12).bind fun b2 => cond (!b2) (K (.one (.s .own seg []), [])) (cond (decide (((a0_10.length : Nat) : Int) ≤ a1)) ((F46 k a0_0 a0_1 a0_2 a0_3 a0_4 a0_5 a0_6 a0_7 a0_8 a0_9 a0_10).bind fun b3 => K (.one (.s .own seg [b3]), [])) (cond (decide (1 ≤ a1) && decide (a1 ≤ 9223372036854775807) && decide (a0_10.length ≤ 140737488355328)) (rangeG (F11_E k) Try.f11 [1, 1, 1, 1, 1, 0, 1, 0] 0 31 (kontAt (F11_E k) [1, 1, 1, 1, 1, 0, 1, 0] (bodyOf Try.f11) 0 (endC (F11_E k) Try.f11 (F11_a a0_0 a0_1 a0_2 a0_3 a0_4 a0_5 a0_6 a0_7 a0_8 a0_9 a0_10 a1) K)) (pieces ((a1 : Int).toNat) a0_10) (F11_s0 a0_0 a0_1 a0_2 a0_3 a0_4 a0_5 a0_6 a0_7 a0_8 a0_9 a0_10 a1 [] a0_2)) none))) := by kernel_rfl
theorem F11_ev {β : Type} (k : Nat) (a0_0 a0_1 a0_2 a0_3 a0_4 : Int) (a0_5 a0_6 a0_7 a0_8 : Bool) (a0_9 : List (den rng)) (a0_10 : List (den (.int .u8))) (a1 : Int) (K : A × List (List Leaf) → Option β) : evalF (F11_E k) Try.f11 (F11_a a0_0 a0_1 a0_2 a0_3 a0_4 a0_5 a0_6 a0_7 a0_8 a0_9 a0_10 a1) K = (F11 k a0_0 a0_1 a0_2 a0_3 a0_4 a0_5 a0_6 a0_7 a0_8 a0_9 a0_10 a1).bind fun r => K (F11_r r) := by
  rw [F11_st, F11]
  simp only [F11_r, bind_cond, Option.bind_assoc, Option.bind_some, Option.bind_none, Option.bind_fun_some, F11_l0_lp]
theorem F11_tOk (k : Nat) : TabFn Try.prog (F11_t k) := .ent (F14_q k) F14_f (.ent (F45_q k) F45_f (.ent (F46_q k) F46_f (.ent (F48_q k) F48_f (.ent (F16_q k) F16_f (.ent (F49_q k) F49_f (.none))))))
theorem F11_con (k : Nat) (a0_0 a0_1 a0_2 a0_3 a0_4 : Int) (a0_5 a0_6 a0_7 a0_8 : Bool) (a0_9 : List (den rng)) (a0_10 : List (den (.int .u8))) (a1 : Int) : Contract Try.prog 11 (F11_a a0_0 a0_1 a0_2 a0_3 a0_4 a0_5 a0_6 a0_7 a0_8 a0_9 a0_10 a1) ⟨F11 k a0_0 a0_1 a0_2 a0_3 a0_4 a0_5 a0_6 a0_7 a0_8 a0_9 a0_10 a1, F11_r⟩ := con_of (envOk (F11_tOk k) _ _ _ _) mixed Try.func11 rfl rfl (F11_ev k a0_0 a0_1 a0_2 a0_3 a0_4 a0_5 a0_6 a0_7 a0_8 a0_9 a0_10 a1 some)
def F11_sh : List AK := [.agg [.l (.int .i64), .l (.int .i64), .l (.int .i64), .l (.int .i64), .l (.int .i64), .l (.bool), .l (.bool), .l (.bool), .l (.bool), .l (.sl .ro rng), .l (.sl .ro (.int .u8))], .one (.l (.int .i64))]
def F11_p (k : Nat) : List Arg → Option CR := cle F11_sh fun x => ⟨F11 k x.1.1 x.1.2.1 x.1.2.2.1 x.1.2.2.2.1 x.1.2.2.2.2.1 x.1.2.2.2.2.2.1 x.1.2.2.2.2.2.2.1 x.1.2.2.2.2.2.2.2.1 x.1.2.2.2.2.2.2.2.2.1 x.1.2.2.2.2.2.2.2.2.2.1 x.1.2.2.2.2.2.2.2.2.2.2.1 x.2.1, F11_r⟩
theorem F11_q (k : Nat) : ∀ xs cr, F11_p k xs = some cr → Contract Try.prog 11 xs cr := cle_ok fun x => F11_con k _ _ _ _ _ _ _ _ _ _ _ _
theorem F11_f : FnOk Try.prog 11 := .of (by kernel_rfl)
/-! 94: loop.example/netstack/laws.eqRange -/
abbrev F94_E (k : Nat) : Env := env noTab noHint .own [] k
abbrev F94_a (a0_0 a0_1 a1_0 a1_1 : Int) : List Arg := [.agg [.l (.v (.int .i64 a0_0)), .l (.v (.int .i64 a0_1))], .agg [.l (.v (.int .i64 a1_0)), .l (.v (.int .i64 a1_1))]]
def F94_r (r : Bool) : A × List (List Leaf) := (.one (.v (.bool r)), [])
def F94 (k : Nat) (a0_0 a0_1 a1_0 a1_1 : Int) : Option (Bool) := cond (a0_0 != a1_0) (some false) (cond (a0_1 != a1_1) (some false) (some true))
theorem F94_st {β : Type} (k : Nat) (a0_0 a0_1 a1_0 a1_1 : Int) (K : A × List (List Leaf) → Option β) : evalF (F94_E k) Try.f94 (F94_a a0_0 a0_1 a1_0 a1_1) K =
    cond (a0_0 != a1_0) (K (.one (.v (.bool false)), [])) (cond (a0_1 != a1_1) (K (.one (.v (.bool false)), [])) (K (.one (.v (.bool true)), []))) := by kernel_rfl
theorem F94_ev {β : Type} (k : Nat) (a0_0 a0_1 a1_0 a1_1 : Int) (K : A × List (List Leaf) → Option β) : evalF (F94_E k) Try.f94 (F94_a a0_0 a0_1 a1_0 a1_1) K = (F94 k a0_0 a0_1 a1_0 a1_1).bind fun r => K (F94_r r) := by
  rw [F94_st, F94]
  simp only [F94_r, bind_cond, Option.bind_assoc, Option.bind_some, Option.bind_none, Option.bind_fun_some]
theorem F94_con (k : Nat) (a0_0 a0_1 a1_0 a1_1 : Int) : Contract Try.prog 94 (F94_a a0_0 a0_1 a1_0 a1_1) ⟨F94 k a0_0 a0_1 a1_0 a1_1, F94_r⟩ := con_of (envOk .none _ _ _ _) mixed Try.func94 rfl rfl (F94_ev k a0_0 a0_1 a1_0 a1_1 some)
def F94_sh : List AK := [.agg [.l (.int .i64), .l (.int .i64)], .agg [.l (.int .i64), .l (.int .i64)]]
def F94_p (k : Nat) : List Arg → Option CR := cle F94_sh fun x => ⟨F94 k x.1.1 x.1.2.1 x.2.1.1 x.2.1.2.1, F94_r⟩
theorem F94_q (k : Nat) : ∀ xs cr, F94_p k xs = some cr → Contract Try.prog 94 xs cr := cle_ok fun x => F94_con k _ _ _ _
theorem F94_f : FnOk Try.prog 94 := .of (by kernel_rfl)
/-! 68: loop.example/netstack/laws.eqRangeS -/
def F68_h : Nat → Hint
  | 0 => ⟨[(0, .plain), (1, .plain), (5, .plain)], []⟩
  | _ => ⟨[], []⟩
def F68_t (k : Nat) : Tab := entT 94 (F94_p k) <| noTab
abbrev F68_E (k : Nat) : Env := env (F68_t k) F68_h .own [] k
abbrev F68_a (a0 a1 : List (den rng)) : List Arg := [.one (.l (.s .ro rng a0)), .one (.l (.s .ro rng a1))]
def F68_r (r : Bool) : A × List (List Leaf) := (.one (.v (.bool r)), [])
def F68_s0 (a0 a1 : List (den rng)) (x5_0 : Int) : St := ⟨(.one (.s .ro rng a0)) :: (.one (.s .ro rng a1)) :: dz 3 ((.one (.v (.int .i64 x5_0))) :: dz 21 []), []⟩
def F68_l0_T {β : Type} (k : Nat) (a0 a1 : List (den rng)) (NX : Int → Option β) (RET : Bool → Option β) (x5_0 : Int) : Option β := cond (decide (x5_0 < ((a0.length : Nat) : Int))) (cond (decide (0 ≤ x5_0)) (cond (decide (x5_0 < ((a0.length : Nat) : Int))) (cond (decide (0 ≤ x5_0)) (cond (decide (x5_0 < ((a1.length : Nat) : Int))) ((F94 k ((atI a0 x5_0).1) ((atI a0 x5_0).2) ((atI a1 x5_0).1) ((atI a1 x5_0).2)).bind fun b1 => cond (!b1) (RET false) (NX (IntKind.i64.wrap (x5_0 + 1)))) none) none) none) none) (RET true)
def F68_l0 (k : Nat) (a0 a1 : List (den rng)) : Nat → Int → Option (Bool)
  | 0, _ => none
  | n + 1, x5_0 => F68_l0_T k a0 a1 (fun x5_0 => F68_l0 k a0 a1 n x5_0) some x5_0
theorem F68_l0_rd {β : Type} (k n : Nat) (a0 a1 : List (den rng)) (x5_0 : Int) (K : A × List (List Leaf) → Option β) :
    loopG (F68_E k) Try.f68 [1, 1, 0, 1, 0] 0 (kontAt (F68_E k) [1, 1, 0, 1, 0] (bodyOf Try.f68) 0 (endC (F68_E k) Try.f68 (F68_a a0 a1) K)) (n + 1) (F68_s0 a0 a1 x5_0) =
    F68_l0_T k a0 a1 (fun x5_0 => loopG (F68_E k) Try.f68 [1, 1, 0, 1, 0] 0 (kontAt (F68_E k) [1, 1, 0, 1, 0] (bodyOf Try.f68) 0 (endC (F68_E k) Try.f68 (F68_a a0 a1) K)) n (F68_s0 a0 a1 x5_0)) (fun r => K (F68_r r)) x5_0 := by kernel_rfl
theorem F68_l0_lp {β : Type} (k : Nat) (a0 a1 : List (den rng)) (K : A × List (List Leaf) → Option β) (n : Nat) : ∀ (x5_0 : Int), loopG (F68_E k) Try.f68 [1, 1, 0, 1, 0] 0 (kontAt (F68_E k) [1, 1, 0, 1, 0] (bodyOf Try.f68) 0 (endC (F68_E k) Try.f68 (F68_a a0 a1) K)) n (F68_s0 a0 a1 x5_0) =
    (F68_l0 k a0 a1 n x5_0).bind fun r => K (F68_r r) := by
  induction n with
  | zero => intros; rfl
  | succ n ih =>
    intros
    rw [F68_l0_rd, F68_l0]
    simp only [F68_l0_T, bind_cond, Option.bind_assoc, Option.bind_some, Option.bind_none, Option.bind_fun_some, ih]
def F68_T {β : Type} (k : Nat) (a0 a1 : List (den rng)) (LP0 : Int → Option β) (RET : Bool → Option β) : Option β := cond (((a0.length : Nat) : Int) != ((a1.length : Nat) : Int)) (RET false) (LP0 0)
def F68 (k : Nat) (a0 a1 : List (den rng)) : Option (Bool) := F68_T k a0 a1 (fun x5_0 => F68_l0 k a0 a1 k x5_0) some
theorem F68_st {β : Type} (k : Nat) (a0 a1 : List (den rng)) (K : A × List (List Leaf) → Option β) : evalF (F68_E k) Try.f68 (F68_a a0 a1) K =
    F68_T k a0 a1 (fun x5_0 => loopG (F68_E k) Try.f68 [1, 1, 0, 1, 0] 0 (kontAt (F68_E k) [1, 1, 0, 1, 0] (bodyOf Try.f68) 0 (endC (F68_E k) Try.f68 (F68_a a0 a1) K)) k (F68_s0 a0 a1 x5_0)) (fun r => K (F68_r r)) := by kernel_rfl
theorem F68_ev {β : Type} (k : Nat) (a0 a1 : List (den rng)) (K : A × List (List Leaf) → Option β) : evalF (F68_E k) Try.f68 (F68_a a0 a1) K = (F68 k a0 a1).bind fun r => K (F68_r r) := by
  rw [F68_st, F68]
  simp only [F68_T, bind_cond, Option.bind_assoc, Option.bind_some, Option.bind_none, Option.bind_fun_some, F68_l0_lp]
theorem F68_tOk (k : Nat) : TabFn Try.prog (F68_t k) := .ent (F94_q k) F94_f (.none)
theorem F68_con (k : Nat) (a0 a1 : List (den rng)) : Contract Try.prog 68 (F68_a a0 a1) ⟨F68 k a0 a1, F68_r⟩ := con_of (envOk (F68_tOk k) _ _ _ _) mixed Try.func68 rfl rfl (F68_ev k a0 a1 some)
def F68_sh : List AK := [.one (.l (.sl .ro rng)), .one (.l (.sl .ro rng))]
def F68_p (k : Nat) : List Arg → Option CR := cle F68_sh fun x => ⟨F68 k x.1 x.2.1, F68_r⟩
theorem F68_q (k : Nat) : ∀ xs cr, F68_p k xs = some cr → Contract Try.prog 68 xs cr := cle_ok fun x => F68_con k _ _
theorem F68_f : FnOk Try.prog 68 := .of (by kernel_rfl)
/-! 31: loop.example/netstack/laws.eqByteS -/
def F31_h : Nat → Hint
  | 0 => ⟨[(0, .plain), (1, .plain), (5, .plain)], []⟩
  | _ => ⟨[], []⟩
abbrev F31_E (k : Nat) : Env := env noTab F31_h .own [] k
abbrev F31_a (a0 a1 : List (den (.int .u8))) : List Arg := [.one (.l (.s .ro (.int .u8) a0)), .one (.l (.s .ro (.int .u8) a1))]
def F31_r (r : Bool) : A × List (List Leaf) := (.one (.v (.bool r)), [])
def F31_s0 (a0 a1 : List (den (.int .u8))) (x5_0 : Int) : St := ⟨(.one (.s .ro (.int .u8) a0)) :: (.one (.s .ro (.int .u8) a1)) :: dz 3 ((.one (.v (.int .i64 x5_0))) :: dz 20 []), []⟩
def F31_l0_T {β : Type} (k : Nat) (a0 a1 : List (den (.int .u8))) (NX : Int → Option β) (RET : Bool → Option β) (x5_0 : Int) : Option β := cond (decide (x5_0 < ((a0.length : Nat) : Int))) (cond (decide (0 ≤ x5_0)) (cond (decide (x5_0 < ((a0.length : Nat) : Int))) (cond (decide (0 ≤ x5_0)) (cond (decide (x5_0 < ((a1.length : Nat) : Int))) (cond ((atI a0 x5_0) != (atI a1 x5_0)) (RET false) (NX (IntKind.i64.wrap (x5_0 + 1)))) none) none) none) none) (RET true)
def F31_l0 (k : Nat) (a0 a1 : List (den (.int .u8))) : Nat → Int → Option (Bool)
  | 0, _ => none
  | n + 1, x5_0 => F31_l0_T k a0 a1 (fun x5_0 => F31_l0 k a0 a1 n x5_0) some x5_0
theorem F31_l0_rd {β : Type} (k n : Nat) (a0 a1 : List (den (.int .u8))) (x5_0 : Int) (K : A × List (List Leaf) → Option β) :
    loopG (F31_E k) Try.f31 [1, 1, 0, 1, 0] 0 (kontAt (F31_E k) [1, 1, 0, 1, 0] (bodyOf Try.f31) 0 (endC (F31_E k) Try.f31 (F31_a a0 a1) K)) (n + 1) (F31_s0 a0 a1 x5_0) =
    F31_l0_T k a0 a1 (fun x5_0 => loopG (F31_E k) Try.f31 [1, 1, 0, 1, 0] 0 (kontAt (F31_E k) [1, 1, 0, 1, 0] (bodyOf Try.f31) 0 (endC (F31_E k) Try.f31 (F31_a a0 a1) K)) n (F31_s0 a0 a1 x5_0)) (fun r => K (F31_r r)) x5_0 := by kernel_rfl
theorem F31_l0_lp {β : Type} (k : Nat) (a0 a1 : List (den (.int .u8))) (K : A × List (List Leaf) → Option β) (n : Nat) : ∀ (x5_0 : Int), loopG (F31_E k) Try.f31 [1, 1, 0, 1, 0] 0 (kontAt (F31_E k) [1, 1, 0, 1, 0] (bodyOf Try.f31) 0 (endC (F31_E k) Try.f31 (F31_a a0 a1) K)) n (F31_s0 a0 a1 x5_0) =
    (F31_l0 k a0 a1 n x5_0).bind fun r => K (F31_r r) := by
  induction n with
  | zero => intros; rfl
  | succ n ih =>
    intros
    rw [F31_l0_rd, F31_l0]
    simp only [F31_l0_T, bind_cond, Option.bind_assoc, Option.bind_some, Option.bind_none, Option.bind_fun_some, ih]
def F31_T {β : Type} (k : Nat) (a0 a1 : List (den (.int .u8))) (LP0 : Int → Option β) (RET : Bool → Option β) : Option β := cond (((a0.length : Nat) : Int) != ((a1.length : Nat) : Int)) (RET false) (LP0 0)
def F31 (k : Nat) (a0 a1 : List (den (.int .u8))) : Option (Bool) := F31_T k a0 a1 (fun x5_0 => F31_l0 k a0 a1 k x5_0) some
theorem F31_st {β : Type} (k : Nat) (a0 a1 : List (den (.int .u8))) (K : A × List (List Leaf) → Option β) : evalF (F31_E k) Try.f31 (F31_a a0 a1) K =
    F31_T k a0 a1 (fun x5_0 => loopG (F31_E k) Try.f31 [1, 1, 0, 1, 0] 0 (kontAt (F31_E k) [1, 1, 0, 1, 0] (bodyOf Try.f31) 0 (endC (F31_E k) Try.f31 (F31_a a0 a1) K)) k (F31_s0 a0 a1 x5_0)) (fun r => K (F31_r r)) := by kernel_rfl
theorem F31_ev {β : Type} (k : Nat) (a0 a1 : List (den (.int .u8))) (K : A × List (List Leaf) → Option β) : evalF (F31_E k) Try.f31 (F31_a a0 a1) K = (F31 k a0 a1).bind fun r => K (F31_r r) := by
  rw [F31_st, F31]
  simp only [F31_T, bind_cond, Option.bind_assoc, Option.bind_some, Option.bind_none, Option.bind_fun_some, F31_l0_lp]
theorem F31_con (k : Nat) (a0 a1 : List (den (.int .u8))) : Contract Try.prog 31 (F31_a a0 a1) ⟨F31 k a0 a1, F31_r⟩ := con_of (envOk .none _ _ _ _) mixed Try.func31 rfl rfl (F31_ev k a0 a1 some)
def F31_sh : List AK := [.one (.l (.sl .ro (.int .u8))), .one (.l (.sl .ro (.int .u8)))]
def F31_p (k : Nat) : List Arg → Option CR := cle F31_sh fun x => ⟨F31 k x.1 x.2.1, F31_r⟩
theorem F31_q (k : Nat) : ∀ xs cr, F31_p k xs = some cr → Contract Try.prog 31 xs cr := cle_ok fun x => F31_con k _ _
theorem F31_f : FnOk Try.prog 31 := .of (by kernel_rfl)
/-! 25: loop.example/netstack/laws.eqSegment -/
def F25_t (k : Nat) : Tab := entT 68 (F68_p k) <| entT 31 (F31_p k) <| noTab
abbrev F25_E (k : Nat) : Env := env (F25_t k) noHint .own [] k
abbrev F25_a (a0_0 a0_1 a0_2 a0_3 a0_4 : Int) (a0_5 a0_6 a0_7 a0_8 : Bool) (a0_9 : List (den rng)) (a0_10 : List (den (.int .u8))) (a1_0 a1_1 a1_2 a1_3 a1_4 : Int) (a1_5 a1_6 a1_7 a1_8 : Bool) (a1_9 : List (den rng)) (a1_10 : List (den (.int .u8))) : List Arg := [.agg [.l (.v (.int .i64 a0_0)), .l (.v (.int .i64 a0_1)), .l (.v (.int .i64 a0_2)), .l (.v (.int .i64 a0_3)), .l (.v (.int .i64 a0_4)), .l (.v (.bool a0_5)), .l (.v (.bool a0_6)), .l (.v (.bool a0_7)), .l (.v (.bool a0_8)), .l (.s .ro rng a0_9), .l (.s .ro (.int .u8) a0_10)], .agg [.l (.v (.int .i64 a1_0)), .l (.v (.int .i64 a1_1)), .l (.v (.int .i64 a1_2)), .l (.v (.int .i64 a1_3)), .l (.v (.int .i64 a1_4)), .l (.v (.bool a1_5)), .l (.v (.bool a1_6)), .l (.v (.bool a1_7)), .l (.v (.bool a1_8)), .l (.s .ro rng a1_9), .l (.s .ro (.int .u8) a1_10)]]
def F25_r (r : Bool) : A × List (List Leaf) := (.one (.v (.bool r)), [])
def F25_T {β : Type} (k : Nat) (a0_0 a0_1 a0_2 a0_3 a0_4 : Int) (a0_5 a0_6 a0_7 a0_8 : Bool) (a0_9 : List (den rng)) (a0_10 : List (den (.int .u8))) (a1_0 a1_1 a1_2 a1_3 a1_4 : Int) (a1_5 a1_6 a1_7 a1_8 : Bool) (a1_9 : List (den rng)) (a1_10 : List (den (.int .u8))) (RET : Bool → Option β) : Option β := cond (a0_0 != a1_0) (RET false) (cond (a0_1 != a1_1) (RET false) (cond (a0_2 != a1_2) (RET false) (cond (a0_3 != a1_3) (RET false) (cond (a0_4 != a1_4) (RET false) (cond (!(a0_5 == a1_5)) (RET false) (cond (!(a0_6 == a1_6)) (RET false) (cond (!(a0_7 == a1_7)) (RET false) (cond (!(a0_8 == a1_8)) (RET false) ((F68 k a0_9 a1_9).bind fun b1 => cond (!b1) (RET false) ((F31 k a0_10 a1_10).bind fun b2 => cond (!b2) (RET false) (RET true)))))))))))
def F25 (k : Nat) (a0_0 a0_1 a0_2 a0_3 a0_4 : Int) (a0_5 a0_6 a0_7 a0_8 : Bool) (a0_9 : List (den rng)) (a0_10 : List (den (.int .u8))) (a1_0 a1_1 a1_2 a1_3 a1_4 : Int) (a1_5 a1_6 a1_7 a1_8 : Bool) (a1_9 : List (den rng)) (a1_10 : List (den (.int .u8))) : Option (Bool) := F25_T k a0_0 a0_1 a0_2 a0_3 a0_4 a0_5 a0_6 a0_7 a0_8 a0_9 a0_10 a1_0 a1_1 a1_2 a1_3 a1_4 a1_5 a1_6 a1_7 a1_8 a1_9 a1_10 some
theorem F25_st {β : Type} (k : Nat) (a0_0 a0_1 a0_2 a0_3 a0_4 : Int) (a0_5 a0_6 a0_7 a0_8 : Bool) (a0_9 : List (den rng)) (a0_10 : List (den (.int .u8))) (a1_0 a1_1 a1_2 a1_3 a1_4 : Int) (a1_5 a1_6 a1_7 a1_8 : Bool) (a1_9 : List (den rng)) (a1_10 : List (den (.int .u8))) (K : A × List (List Leaf) → Option β) : evalF (F25_E k) Try.f25 (F25_a a0_0 a0_1 a0_2 a0_3 a0_4 a0_5 a0_6 a0_7 a0_8 a0_9 a0_10 a1_0 a1_1 a1_2 a1_3 a1_4 a1_5 a1_6 a1_7 a1_8 a1_9 a1_10) K =
    F25_T k a0_0 a0_1 a0_2 a0_3 a0_4 a0_5 a0_6 a0_7 a0_8 a0_9 a0_10 a1_0 a1_1 a1_2 a1_3 a1_4 a1_5 a1_6 a1_7 a1_8 a1_9 a1_10 (fun r => K (F25_r r)) := by kernel_rfl
theorem F25_ev {β : Type} (k : Nat) (a0_0 a0_1 a0_2 a0_3 a0_4 : Int) (a0_5 a0_6 a0_7 a0_8 : Bool) (a0_9 : List (den rng)) (a0_10 : List (den (.int .u8))) (a1_0 a1_1 a1_2 a1_3 a1_4 : Int) (a1_5 a1_6 a1_7 a1_8 : Bool) (a1_9 : List (den rng)) (a1_10 : List (den (.int .u8))) (K : A × List (List Leaf) → Option β) : evalF (F25_E k) Try.f25 (F25_a a0_0 a0_1 a0_2 a0_3 a0_4 a0_5 a0_6 a0_7 a0_8 a0_9 a0_10 a1_0 a1_1 a1_2 a1_3 a1_4 a1_5 a1_6 a1_7 a1_8 a1_9 a1_10) K = (F25 k a0_0 a0_1 a0_2 a0_3 a0_4 a0_5 a0_6 a0_7 a0_8 a0_9 a0_10 a1_0 a1_1 a1_2 a1_3 a1_4 a1_5 a1_6 a1_7 a1_8 a1_9 a1_10).bind fun r => K (F25_r r) := by
  rw [F25_st, F25]
  simp only [F25_T, bind_cond, Option.bind_assoc, Option.bind_some, Option.bind_none, Option.bind_fun_some]
theorem F25_tOk (k : Nat) : TabFn Try.prog (F25_t k) := .ent (F68_q k) F68_f (.ent (F31_q k) F31_f (.none))
theorem F25_con (k : Nat) (a0_0 a0_1 a0_2 a0_3 a0_4 : Int) (a0_5 a0_6 a0_7 a0_8 : Bool) (a0_9 : List (den rng)) (a0_10 : List (den (.int .u8))) (a1_0 a1_1 a1_2 a1_3 a1_4 : Int) (a1_5 a1_6 a1_7 a1_8 : Bool) (a1_9 : List (den rng)) (a1_10 : List (den (.int .u8))) : Contract Try.prog 25 (F25_a a0_0 a0_1 a0_2 a0_3 a0_4 a0_5 a0_6 a0_7 a0_8 a0_9 a0_10 a1_0 a1_1 a1_2 a1_3 a1_4 a1_5 a1_6 a1_7 a1_8 a1_9 a1_10) ⟨F25 k a0_0 a0_1 a0_2 a0_3 a0_4 a0_5 a0_6 a0_7 a0_8 a0_9 a0_10 a1_0 a1_1 a1_2 a1_3 a1_4 a1_5 a1_6 a1_7 a1_8 a1_9 a1_10, F25_r⟩ := con_of (envOk (F25_tOk k) _ _ _ _) mixed Try.func25 rfl rfl (F25_ev k a0_0 a0_1 a0_2 a0_3 a0_4 a0_5 a0_6 a0_7 a0_8 a0_9 a0_10 a1_0 a1_1 a1_2 a1_3 a1_4 a1_5 a1_6 a1_7 a1_8 a1_9 a1_10 some)
def F25_sh : List AK := [.agg [.l (.int .i64), .l (.int .i64), .l (.int .i64), .l (.int .i64), .l (.int .i64), .l (.bool), .l (.bool), .l (.bool), .l (.bool), .l (.sl .ro rng), .l (.sl .ro (.int .u8))], .agg [.l (.int .i64), .l (.int .i64), .l (.int .i64), .l (.int .i64), .l (.int .i64), .l (.bool), .l (.bool), .l (.bool), .l (.bool), .l (.sl .ro rng), .l (.sl .ro (.int .u8))]]
def F25_p (k : Nat) : List Arg → Option CR := cle F25_sh fun x => ⟨F25 k x.1.1 x.1.2.1 x.1.2.2.1 x.1.2.2.2.1 x.1.2.2.2.2.1 x.1.2.2.2.2.2.1 x.1.2.2.2.2.2.2.1 x.1.2.2.2.2.2.2.2.1 x.1.2.2.2.2.2.2.2.2.1 x.1.2.2.2.2.2.2.2.2.2.1 x.1.2.2.2.2.2.2.2.2.2.2.1 x.2.1.1 x.2.1.2.1 x.2.1.2.2.1 x.2.1.2.2.2.1 x.2.1.2.2.2.2.1 x.2.1.2.2.2.2.2.1 x.2.1.2.2.2.2.2.2.1 x.2.1.2.2.2.2.2.2.2.1 x.2.1.2.2.2.2.2.2.2.2.1 x.2.1.2.2.2.2.2.2.2.2.2.1 x.2.1.2.2.2.2.2.2.2.2.2.2.1, F25_r⟩
theorem F25_q (k : Nat) : ∀ xs cr, F25_p k xs = some cr → Contract Try.prog 25 xs cr := cle_ok fun x => F25_con k _ _ _ _ _ _ _ _ _ _ _ _ _ _ _ _ _ _ _ _ _ _
theorem F25_f : FnOk Try.prog 25 := .of (by kernel_rfl)
/-! 24: loop.example/netstack/laws.eqSegmentS -/
def F24_h : Nat → Hint
  | 0 => ⟨[(0, .plain), (1, .plain), (5, .plain)], []⟩
  | _ => ⟨[], []⟩
def F24_t (k : Nat) : Tab := entT 25 (F25_p k) <| noTab
abbrev F24_E (k : Nat) : Env := env (F24_t k) F24_h .own [] k
abbrev F24_a (a0 a1 : List (den seg)) : List Arg := [.one (.l (.s .ro seg a0)), .one (.l (.s .ro seg a1))]
def F24_r (r : Bool) : A × List (List Leaf) := (.one (.v (.bool r)), [])
def F24_s0 (a0 a1 : List (den seg)) (x5_0 : Int) : St := ⟨(.one (.s .ro seg a0)) :: (.one (.s .ro seg a1)) :: dz 3 ((.one (.v (.int .i64 x5_0))) :: dz 21 []), []⟩
def F24_l0_T {β : Type} (k : Nat) (a0 a1 : List (den seg)) (NX : Int → Option β) (RET : Bool → Option β) (x5_0 : Int) : Option β := cond (decide (x5_0 < ((a0.length : Nat) : Int))) (cond (decide (0 ≤ x5_0)) (cond (decide (x5_0 < ((a0.length : Nat) : Int))) (cond (decide (0 ≤ x5_0)) (cond (decide (x5_0 < ((a1.length : Nat) : Int))) ((F25 k ((atI a0 x5_0).1) (((atI a0 x5_0).2).1) ((((atI a0 x5_0).2).2).1) (((((atI a0 x5_0).2).2).2).1) ((((((atI a0 x5_0).2).2).2).2).1) (((((((atI a0 x5_0).2).2).2).2).2).1) ((((((((atI a0 x5_0).2).2).2).2).2).2).1) (((((((((atI a0 x5_0).2).2).2).2).2).2).2).1) ((((((((((atI a0 x5_0).2).2).2).2).2).2).2).2).1) (((((((((((atI a0 x5_0).2).2).2).2).2).2).2).2).2).1) (((((((((((atI a0 x5_0).2).2).2).2).2).2).2).2).2).2) ((atI a1 x5_0).1) (((atI a1 x5_0).2).1) ((((atI a1 x5_0).2).2).1) (((((atI a1 x5_0).2).2).2).1) ((((((atI a1 x5_0).2).2).2).2).1) (((((((atI a1 x5_0).2).2).2).2).2).1) ((((((((atI a1 x5_0).2).2).2).2).2).2).1) (((((((((atI a1 x5_0).2).2).2).2).2).2).2).1) ((((((((((atI a1 x5_0).2).2).2).2).2).2).2).2).1) (((((((((((atI a1 x5_0).2).2).2).2).2).2).2).2).2).1) (((((((((((atI a1 x5_0).2).2).2).2).2).2).2).2).2).2)).bind fun b1 => cond (!b1) (RET false) (NX (IntKind.i64.wrap (x5_0 + 1)))) none) none) none) none) (RET true)
def F24_l0 (k : Nat) (a0 a1 : List (den seg)) : Nat → Int → Option (Bool)
  | 0, _ => none
  | n + 1, x5_0 => F24_l0_T k a0 a1 (fun x5_0 => F24_l0 k a0 a1 n x5_0) some x5_0
theorem F24_l0_rd {β : Type} (k n : Nat) (a0 a1 : List (den seg)) (x5_0 : Int) (K : A × List (List Leaf) → Option β) :
    loopG (F24_E k) Try.f24 [1, 1, 0, 1, 0] 0 (kontAt (F24_E k) [1, 1, 0, 1, 0] (bodyOf Try.f24) 0 (endC (F24_E k) Try.f24 (F24_a a0 a1) K)) (n + 1) (F24_s0 a0 a1 x5_0) =
    F24_l0_T k a0 a1 (fun x5_0 => loopG (F24_E k) Try.f24 [1, 1, 0, 1, 0] 0 (kontAt (F24_E k) [1, 1, 0, 1, 0] (bodyOf Try.f24) 0 (endC (F24_E k) Try.f24 (F24_a a0 a1) K)) n (F24_s0 a0 a1 x5_0)) (fun r => K (F24_r r)) x5_0 := by kernel_rfl
theorem F24_l0_lp {β : Type} (k : Nat) (a0 a1 : List (den seg)) (K : A × List (List Leaf) → Option β) (n : Nat) : ∀ (x5_0 : Int), loopG (F24_E k) Try.f24 [1, 1, 0, 1, 0] 0 (kontAt (F24_E k) [1, 1, 0, 1, 0] (bodyOf Try.f24) 0 (endC (F24_E k) Try.f24 (F24_a a0 a1) K)) n (F24_s0 a0 a1 x5_0) =
    (F24_l0 k a0 a1 n x5_0).bind fun r => K (F24_r r) := by
  induction n with
  | zero => intros; rfl
  | succ n ih =>
    intros
    rw [F24_l0_rd, F24_l0]
    simp only [F24_l0_T, bind_cond, Option.bind_assoc, Option.bind_some, Option.bind_none, Option.bind_fun_some, ih]
def F24_T {β : Type} (k : Nat) (a0 a1 : List (den seg)) (LP0 : Int → Option β) (RET : Bool → Option β) : Option β := cond (((a0.length : Nat) : Int) != ((a1.length : Nat) : Int)) (RET false) (LP0 0)
def F24 (k : Nat) (a0 a1 : List (den seg)) : Option (Bool) := F24_T k a0 a1 (fun x5_0 => F24_l0 k a0 a1 k x5_0) some
theorem F24_st {β : Type} (k : Nat) (a0 a1 : List (den seg)) (K : A × List (List Leaf) → Option β) : evalF (F24_E k) Try.f24 (F24_a a0 a1) K =
    F24_T k a0 a1 (fun x5_0 => loopG (F24_E k) Try.f24 [1, 1, 0, 1, 0] 0 (kontAt (F24_E k) [1, 1, 0, 1, 0] (bodyOf Try.f24) 0 (endC (F24_E k) Try.f24 (F24_a a0 a1) K)) k (F24_s0 a0 a1 x5_0)) (fun r => K (F24_r r)) := by kernel_rfl
theorem F24_ev {β : Type} (k : Nat) (a0 a1 : List (den seg)) (K : A × List (List Leaf) → Option β) : evalF (F24_E k) Try.f24 (F24_a a0 a1) K = (F24 k a0 a1).bind fun r => K (F24_r r) := by
  rw [F24_st, F24]
  simp only [F24_T, bind_cond, Option.bind_assoc, Option.bind_some, Option.bind_none, Option.bind_fun_some, F24_l0_lp]
theorem F24_tOk (k : Nat) : TabFn Try.prog (F24_t k) := .ent (F25_q k) F25_f (.none)
theorem F24_con (k : Nat) (a0 a1 : List (den seg)) : Contract Try.prog 24 (F24_a a0 a1) ⟨F24 k a0 a1, F24_r⟩ := con_of (envOk (F24_tOk k) _ _ _ _) mixed Try.func24 rfl rfl (F24_ev k a0 a1 some)
def F24_sh : List AK := [.one (.l (.sl .ro seg)), .one (.l (.sl .ro seg))]
def F24_p (k : Nat) : List Arg → Option CR := cle F24_sh fun x => ⟨F24 k x.1 x.2.1, F24_r⟩
theorem F24_q (k : Nat) : ∀ xs cr, F24_p k xs = some cr → Contract Try.prog 24 xs cr := cle_ok fun x => F24_con k _ _
theorem F24_f : FnOk Try.prog 24 := .of (by kernel_rfl)
/-! 69: loop.example/netstack/laws.markRangeS -/
def F69_h : Nat → Hint
  | 0 => ⟨[(0, .plain), (1, .plain), (5, .plain)], [(0, .plain)]⟩
  | _ => ⟨[], []⟩
abbrev F69_E (k : Nat) : Env := env noTab F69_h .own [(true, 0)] k
abbrev F69_a (a0 : List (den rng)) (a1 : Int) : List Arg := [.one (.b (.s .own rng a0)), .one (.l (.v (.int .i64 a1)))]
def F69_r (r : Int × List (den rng)) : A × List (List Leaf) := (.one (.v (.int .i64 r.1)), [[.s .own rng r.2]])
def F69_s0 (a0 : List (den rng)) (a1 : Int) (x1_0 x5_0 : Int) (m0_0 : List (den rng)) : St := ⟨(.one (.a (.cell 0) 0 0 none)) :: (.one (.v (.int .i64 x1_0))) :: dz 3 ((.one (.v (.int .i64 x5_0))) :: dz 21 []), [(0, ⟨.s .own rng m0_0, 0, 0⟩)]⟩
def F69_l0_T {β : Type} (k : Nat) (a0 : List (den rng)) (a1 : Int) (NX : Int → Int → List (den rng) → Option β) (RET : (Int × List (den rng)) → Option β) (x1_0 x5_0 : Int) (m0_0 : List (den rng)) : Option β := cond (decide (x5_0 < ((m0_0.length : Nat) : Int))) (cond (decide (0 ≤ x5_0)) (cond (decide (x5_0 < ((m0_0.length : Nat) : Int))) (cond (decide (0 ≤ x5_0)) (cond (decide (x5_0 < (((m0_0.set x5_0.toNat (x1_0, (atI m0_0 x5_0).2)).length : Nat) : Int))) (NX (IntKind.i64.wrap ((IntKind.i64.wrap (x1_0 + 1)) + 1)) (IntKind.i64.wrap (x5_0 + 1)) ((m0_0.set x5_0.toNat (x1_0, (atI m0_0 x5_0).2)).set x5_0.toNat ((atI (m0_0.set x5_0.toNat (x1_0, (atI m0_0 x5_0).2)) x5_0).1, IntKind.i64.wrap (x1_0 + 1)))) none) none) none) none) (RET (x1_0, m0_0))
def F69_l0 (k : Nat) (a0 : List (den rng)) (a1 : Int) : Nat → Int → Int → List (den rng) → Option (Int × List (den rng))
  | 0, _, _, _ => none
  | n + 1, x1_0, x5_0, m0_0 => F69_l0_T k a0 a1 (fun x1_0 x5_0 m0_0 => F69_l0 k a0 a1 n x1_0 x5_0 m0_0) some x1_0 x5_0 m0_0
theorem F69_l0_rd {β : Type} (k n : Nat) (a0 : List (den rng)) (a1 : Int) (x1_0 x5_0 : Int) (m0_0 : List (den rng)) (K : A × List (List Leaf) → Option β) :
    loopG (F69_E k) Try.f69 [1, 0, 1, 0] 0 (kontAt (F69_E k) [1, 0, 1, 0] (bodyOf Try.f69) 0 (endC (F69_E k) Try.f69 (F69_a a0 a1) K)) (n + 1) (F69_s0 a0 a1 x1_0 x5_0 m0_0) =
    F69_l0_T k a0 a1 (fun x1_0 x5_0 m0_0 => loopG (F69_E k) Try.f69 [1, 0, 1, 0] 0 (kontAt (F69_E k) [1, 0, 1, 0] (bodyOf Try.f69) 0 (endC (F69_E k) Try.f69 (F69_a a0 a1) K)) n (F69_s0 a0 a1 x1_0 x5_0 m0_0)) (fun r => K (F69_r r)) x1_0 x5_0 m0_0 := by kernel_rfl
theorem F69_l0_lp {β : Type} (k : Nat) (a0 : List (den rng)) (a1 : Int) (K : A × List (List Leaf) → Option β) (n : Nat) : ∀ (x1_0 x5_0 : Int) (m0_0 : List (den rng)), loopG (F69_E k) Try.f69 [1, 0, 1, 0] 0 (kontAt (F69_E k) [1, 0, 1, 0] (bodyOf Try.f69) 0 (endC (F69_E k) Try.f69 (F69_a a0 a1) K)) n (F69_s0 a0 a1 x1_0 x5_0 m0_0) =
    (F69_l0 k a0 a1 n x1_0 x5_0 m0_0).bind fun r => K (F69_r r) := by
  induction n with
  | zero => intros; rfl
  | succ n ih =>
    intros
    rw [F69_l0_rd, F69_l0]
    simp only [F69_l0_T, bind_cond, Option.bind_assoc, Option.bind_some, Option.bind_none, Option.bind_fun_some, ih]
def F69_T {β : Type} (k : Nat) (a0 : List (den rng)) (a1 : Int) (LP0 : Int → Int → List (den rng) → Option β) : Option β := LP0 a1 0 a0
def F69 (k : Nat) (a0 : List (den rng)) (a1 : Int) : Option (Int × List (den rng)) := F69_T k a0 a1 (fun x1_0 x5_0 m0_0 => F69_l0 k a0 a1 k x1_0 x5_0 m0_0)
theorem F69_st {β : Type} (k : Nat) (a0 : List (den rng)) (a1 : Int) (K : A × List (List Leaf) → Option β) : evalF (F69_E k) Try.f69 (F69_a a0 a1) K =
    F69_T k a0 a1 (fun x1_0 x5_0 m0_0 => loopG (F69_E k) Try.f69 [1, 0, 1, 0] 0 (kontAt (F69_E k) [1, 0, 1, 0] (bodyOf Try.f69) 0 (endC (F69_E k) Try.f69 (F69_a a0 a1) K)) k (F69_s0 a0 a1 x1_0 x5_0 m0_0)) := by kernel_rfl
theorem F69_ev {β : Type} (k : Nat) (a0 : List (den rng)) (a1 : Int) (K : A × List (List Leaf) → Option β) : evalF (F69_E k) Try.f69 (F69_a a0 a1) K = (F69 k a0 a1).bind fun r => K (F69_r r) := by
  rw [F69_st, F69]
  simp only [F69_T, bind_cond, Option.bind_assoc, Option.bind_some, Option.bind_none, Option.bind_fun_some, F69_l0_lp]
theorem F69_con (k : Nat) (a0 : List (den rng)) (a1 : Int) : Contract Try.prog 69 (F69_a a0 a1) ⟨F69 k a0 a1, F69_r⟩ := con_of (envOk .none _ _ _ _) mixed Try.func69 rfl rfl (F69_ev k a0 a1 some)
def F69_sh : List AK := [.one (.b (.sl .own rng)), .one (.l (.int .i64))]
def F69_p (k : Nat) : List Arg → Option CR := cle F69_sh fun x => ⟨F69 k x.1 x.2.1, F69_r⟩
theorem F69_q (k : Nat) : ∀ xs cr, F69_p k xs = some cr → Contract Try.prog 69 xs cr := cle_ok fun x => F69_con k _ _
theorem F69_f : FnOk Try.prog 69 := .of (by kernel_rfl)
/-! 32: loop.example/netstack/laws.markByteS -/
def F32_h : Nat → Hint
  | 0 => ⟨[(0, .plain), (1, .plain), (5, .plain)], [(0, .plain)]⟩
  | _ => ⟨[], []⟩
abbrev F32_E (k : Nat) : Env := env noTab F32_h .own [(true, 0)] k
abbrev F32_a (a0 : List (den (.int .u8))) (a1 : Int) : List Arg := [.one (.b (.s .own (.int .u8) a0)), .one (.l (.v (.int .i64 a1)))]
def F32_r (r : Int × List (den (.int .u8))) : A × List (List Leaf) := (.one (.v (.int .i64 r.1)), [[.s .own (.int .u8) r.2]])
def F32_s0 (a0 : List (den (.int .u8))) (a1 : Int) (x1_0 x5_0 : Int) (m0_0 : List (den (.int .u8))) : St := ⟨(.one (.a (.cell 0) 0 0 none)) :: (.one (.v (.int .i64 x1_0))) :: dz 3 ((.one (.v (.int .i64 x5_0))) :: dz 14 []), [(0, ⟨.s .own (.int .u8) m0_0, 0, 0⟩)]⟩
def F32_l0_T {β : Type} (k : Nat) (a0 : List (den (.int .u8))) (a1 : Int) (NX : Int → Int → List (den (.int .u8)) → Option β) (RET : (Int × List (den (.int .u8))) → Option β) (x1_0 x5_0 : Int) (m0_0 : List (den (.int .u8))) : Option β := cond (decide (x5_0 < ((m0_0.length : Nat) : Int))) (cond (decide (0 ≤ x5_0)) (cond (decide (x5_0 < ((m0_0.length : Nat) : Int))) (NX (IntKind.i64.wrap (x1_0 + 1)) (IntKind.i64.wrap (x5_0 + 1)) (m0_0.set x5_0.toNat (IntKind.u8.wrap (x1_0)))) none) none) (RET (x1_0, m0_0))
def F32_l0 (k : Nat) (a0 : List (den (.int .u8))) (a1 : Int) : Nat → Int → Int → List (den (.int .u8)) → Option (Int × List (den (.int .u8)))
  | 0, _, _, _ => none
  | n + 1, x1_0, x5_0, m0_0 => F32_l0_T k a0 a1 (fun x1_0 x5_0 m0_0 => F32_l0 k a0 a1 n x1_0 x5_0 m0_0) some x1_0 x5_0 m0_0
theorem F32_l0_rd {β : Type} (k n : Nat) (a0 : List (den (.int .u8))) (a1 : Int) (x1_0 x5_0 : Int) (m0_0 : List (den (.int .u8))) (K : A × List (List Leaf) → Option β) :
    loopG (F32_E k) Try.f32 [1, 0, 1, 0] 0 (kontAt (F32_E k) [1, 0, 1, 0] (bodyOf Try.f32) 0 (endC (F32_E k) Try.f32 (F32_a a0 a1) K)) (n + 1) (F32_s0 a0 a1 x1_0 x5_0 m0_0) =
    F32_l0_T k a0 a1 (fun x1_0 x5_0 m0_0 => loopG (F32_E k) Try.f32 [1, 0, 1, 0] 0 (kontAt (F32_E k) [1, 0, 1, 0] (bodyOf Try.f32) 0 (endC (F32_E k) Try.f32 (F32_a a0 a1) K)) n (F32_s0 a0 a1 x1_0 x5_0 m0_0)) (fun r => K (F32_r r)) x1_0 x5_0 m0_0 := by kernel_rfl
theorem F32_l0_lp {β : Type} (k : Nat) (a0 : List (den (.int .u8))) (a1 : Int) (K : A × List (List Leaf) → Option β) (n : Nat) : ∀ (x1_0 x5_0 : Int) (m0_0 : List (den (.int .u8))), loopG (F32_E k) Try.f32 [1, 0, 1, 0] 0 (kontAt (F32_E k) [1, 0, 1, 0] (bodyOf Try.f32) 0 (endC (F32_E k) Try.f32 (F32_a a0 a1) K)) n (F32_s0 a0 a1 x1_0 x5_0 m0_0) =
    (F32_l0 k a0 a1 n x1_0 x5_0 m0_0).bind fun r => K (F32_r r) := by
  induction n with
  | zero => intros; rfl
  | succ n ih =>
    intros
    rw [F32_l0_rd, F32_l0]
    simp only [F32_l0_T, bind_cond, Option.bind_assoc, Option.bind_some, Option.bind_none, Option.bind_fun_some, ih]
def F32_T {β : Type} (k : Nat) (a0 : List (den (.int .u8))) (a1 : Int) (LP0 : Int → Int → List (den (.int .u8)) → Option β) : Option β := LP0 a1 0 a0
def F32 (k : Nat) (a0 : List (den (.int .u8))) (a1 : Int) : Option (Int × List (den (.int .u8))) := F32_T k a0 a1 (fun x1_0 x5_0 m0_0 => F32_l0 k a0 a1 k x1_0 x5_0 m0_0)
theorem F32_st {β : Type} (k : Nat) (a0 : List (den (.int .u8))) (a1 : Int) (K : A × List (List Leaf) → Option β) : evalF (F32_E k) Try.f32 (F32_a a0 a1) K =
    F32_T k a0 a1 (fun x1_0 x5_0 m0_0 => loopG (F32_E k) Try.f32 [1, 0, 1, 0] 0 (kontAt (F32_E k) [1, 0, 1, 0] (bodyOf Try.f32) 0 (endC (F32_E k) Try.f32 (F32_a a0 a1) K)) k (F32_s0 a0 a1 x1_0 x5_0 m0_0)) := by kernel_rfl
theorem F32_ev {β : Type} (k : Nat) (a0 : List (den (.int .u8))) (a1 : Int) (K : A × List (List Leaf) → Option β) : evalF (F32_E k) Try.f32 (F32_a a0 a1) K = (F32 k a0 a1).bind fun r => K (F32_r r) := by
  rw [F32_st, F32]
  simp only [F32_T, bind_cond, Option.bind_assoc, Option.bind_some, Option.bind_none, Option.bind_fun_some, F32_l0_lp]
theorem F32_con (k : Nat) (a0 : List (den (.int .u8))) (a1 : Int) : Contract Try.prog 32 (F32_a a0 a1) ⟨F32 k a0 a1, F32_r⟩ := con_of (envOk .none _ _ _ _) mixed Try.func32 rfl rfl (F32_ev k a0 a1 some)
def F32_sh : List AK := [.one (.b (.sl .own (.int .u8))), .one (.l (.int .i64))]
def F32_p (k : Nat) : List Arg → Option CR := cle F32_sh fun x => ⟨F32 k x.1 x.2.1, F32_r⟩
theorem F32_q (k : Nat) : ∀ xs cr, F32_p k xs = some cr → Contract Try.prog 32 xs cr := cle_ok fun x => F32_con k _ _
theorem F32_f : FnOk Try.prog 32 := .of (by kernel_rfl)
/-! 26: loop.example/netstack/laws.markSegment -/
def F26_t (k : Nat) : Tab := entT 69 (F69_p k) <| entT 32 (F32_p k) <| noTab
abbrev F26_E (k : Nat) : Env := env (F26_t k) noHint .own [(true, 9), (true, 10)] k
abbrev F26_a (a0_0 a0_1 a0_2 a0_3 a0_4 : Int) (a0_5 a0_6 a0_7 a0_8 : Bool) (a0_9 : List (den rng)) (a0_10 : List (den (.int .u8))) (a1 : Int) : List Arg := [.agg [.l (.v (.int .i64 a0_0)), .l (.v (.int .i64 a0_1)), .l (.v (.int .i64 a0_2)), .l (.v (.int .i64 a0_3)), .l (.v (.int .i64 a0_4)), .l (.v (.bool a0_5)), .l (.v (.bool a0_6)), .l (.v (.bool a0_7)), .l (.v (.bool a0_8)), .b (.s .own rng a0_9), .b (.s .own (.int .u8) a0_10)], .one (.l (.v (.int .i64 a1)))]
def F26_r (r : Int × List (den rng) × List (den (.int .u8))) : A × List (List Leaf) := (.one (.v (.int .i64 r.1)), [[.s .own rng r.2.1], [.s .own (.int .u8) r.2.2]])
def F26 (k : Nat) (a0_0 a0_1 a0_2 a0_3 a0_4 : Int) (a0_5 a0_6 a0_7 a0_8 : Bool) (a0_9 : List (den rng)) (a0_10 : List (den (.int .u8))) (a1 : Int) : Option (Int × List (den rng) × List (den (.int .u8))) := (F69 k a0_9 a1).bind fun b1 => (F32 k a0_10 b1.1).bind fun b2 => some (b2.1, b1.2, b2.2)
theorem F26_st {β : Type} (k : Nat) (a0_0 a0_1 a0_2 a0_3 a0_4 : Int) (a0_5 a0_6 a0_7 a0_8 : Bool) (a0_9 : List (den rng)) (a0_10 : List (den (.int .u8))) (a1 : Int) (K : A × List (List Leaf) → Option β) : evalF (F26_E k) Try.f26 (F26_a a0_0 a0_1 a0_2 a0_3 a0_4 a0_5 a0_6 a0_7 a0_8 a0_9 a0_10 a1) K =
    (F69 k a0_9 a1).bind fun b1 => (F32 k a0_10 b1.1).bind fun b2 => K (.one (.v (.int .i64 b2.1)), [[.s .own rng b1.2], [.s .own (.int .u8) b2.2]]) := by kernel_rfl
theorem F26_ev {β : Type} (k : Nat) (a0_0 a0_1 a0_2 a0_3 a0_4 : Int) (a0_5 a0_6 a0_7 a0_8 : Bool) (a0_9 : List (den rng)) (a0_10 : List (den (.int .u8))) (a1 : Int) (K : A × List (List Leaf) → Option β) : evalF (F26_E k) Try.f26 (F26_a a0_0 a0_1 a0_2 a0_3 a0_4 a0_5 a0_6 a0_7 a0_8 a0_9 a0_10 a1) K = (F26 k a0_0 a0_1 a0_2 a0_3 a0_4 a0_5 a0_6 a0_7 a0_8 a0_9 a0_10 a1).bind fun r => K (F26_r r) := by
  rw [F26_st, F26]
  simp only [F26_r, bind_cond, Option.bind_assoc, Option.bind_some, Option.bind_none, Option.bind_fun_some]
theorem F26_tOk (k : Nat) : TabFn Try.prog (F26_t k) := .ent (F69_q k) F69_f (.ent (F32_q k) F32_f (.none))
theorem F26_con (k : Nat) (a0_0 a0_1 a0_2 a0_3 a0_4 : Int) (a0_5 a0_6 a0_7 a0_8 : Bool) (a0_9 : List (den rng)) (a0_10 : List (den (.int .u8))) (a1 : Int) : Contract Try.prog 26 (F26_a a0_0 a0_1 a0_2 a0_3 a0_4 a0_5 a0_6 a0_7 a0_8 a0_9 a0_10 a1) ⟨F26 k a0_0 a0_1 a0_2 a0_3 a0_4 a0_5 a0_6 a0_7 a0_8 a0_9 a0_10 a1, F26_r⟩ := con_of (envOk (F26_tOk k) _ _ _ _) mixed Try.func26 rfl rfl (F26_ev k a0_0 a0_1 a0_2 a0_3 a0_4 a0_5 a0_6 a0_7 a0_8 a0_9 a0_10 a1 some)
def F26_sh : List AK := [.agg [.l (.int .i64), .l (.int .i64), .l (.int .i64), .l (.int .i64), .l (.int .i64), .l (.bool), .l (.bool), .l (.bool), .l (.bool), .b (.sl .own rng), .b (.sl .own (.int .u8))], .one (.l (.int .i64))]
def F26_p (k : Nat) : List Arg → Option CR := cle F26_sh fun x => ⟨F26 k x.1.1 x.1.2.1 x.1.2.2.1 x.1.2.2.2.1 x.1.2.2.2.2.1 x.1.2.2.2.2.2.1 x.1.2.2.2.2.2.2.1 x.1.2.2.2.2.2.2.2.1 x.1.2.2.2.2.2.2.2.2.1 x.1.2.2.2.2.2.2.2.2.2.1 x.1.2.2.2.2.2.2.2.2.2.2.1 x.2.1, F26_r⟩
theorem F26_q (k : Nat) : ∀ xs cr, F26_p k xs = some cr → Contract Try.prog 26 xs cr := cle_ok fun x => F26_con k _ _ _ _ _ _ _ _ _ _ _ _
theorem F26_f : FnOk Try.prog 26 := .of (by kernel_rfl)
/-! 27: loop.example/netstack/laws.markSegmentS -/
def F27_h : Nat → Hint
  | 0 => ⟨[(0, .plain), (1, .plain), (5, .plain)], [(0, .plain)]⟩
  | _ => ⟨[], []⟩
def F27_t (k : Nat) : Tab := entT 69 (F69_p k) <| entT 32 (F32_p k) <| noTab
abbrev F27_E (k : Nat) : Env := env (F27_t k) F27_h .own [(true, 0)] k
abbrev F27_a (a0 : List (den seg)) (a1 : Int) : List Arg := [.one (.b (.s .own seg a0)), .one (.l (.v (.int .i64 a1)))]
def F27_r (r : Int × List (den seg)) : A × List (List Leaf) := (.one (.v (.int .i64 r.1)), [[.s .own seg r.2]])
def F27_s0 (a0 : List (den seg)) (a1 : Int) (x1_0 x5_0 : Int) (m0_0 : List (den seg)) : St := ⟨(.one (.a (.cell 0) 0 0 none)) :: (.one (.v (.int .i64 x1_0))) :: dz 3 ((.one (.v (.int .i64 x5_0))) :: dz 92 []), [(0, ⟨.s .own seg m0_0, 0, 0⟩)]⟩
def F27_l0_T {β : Type} (k : Nat) (a0 : List (den seg)) (a1 : Int) (NX : Int → Int → List (den seg) → Option β) (RET : (Int × List (den seg)) → Option β) (x1_0 x5_0 : Int) (m0_0 : List (den seg)) : Option β := cond (decide (x5_0 < ((m0_0.length : Nat) : Int))) (cond (decide (0 ≤ x5_0)) (cond (decide (x5_0 < ((m0_0.length : Nat) : Int))) ((sto (m0_0.set x5_0.toNat (x1_0, ((atI m0_0 x5_0).2).1, (((atI m0_0 x5_0).2).2).1, ((((atI m0_0 x5_0).2).2).2).1, (((((atI m0_0 x5_0).2).2).2).2).1, ((((((atI m0_0 x5_0).2).2).2).2).2).1, (((((((atI m0_0 x5_0).2).2).2).2).2).2).1, ((((((((atI m0_0 x5_0).2).2).2).2).2).2).2).1, (((((((((atI m0_0 x5_0).2).2).2).2).2).2).2).2).1, ((((((((((atI m0_0 x5_0).2).2).2).2).2).2).2).2).2)))).bind fun b1 => cond (decide (0 ≤ x5_0)) (cond (decide (x5_0 < ((b1.length : Nat) : Int))) ((sto (b1.set x5_0.toNat ((atI b1 x5_0).1, IntKind.i64.wrap (x1_0 + 1), (((atI b1 x5_0).2).2).1, ((((atI b1 x5_0).2).2).2).1, (((((atI b1 x5_0).2).2).2).2).1, ((((((atI b1 x5_0).2).2).2).2).2).1, (((((((atI b1 x5_0).2).2).2).2).2).2).1, ((((((((atI b1 x5_0).2).2).2).2).2).2).2).1, (((((((((atI b1 x5_0).2).2).2).2).2).2).2).2).1, ((((((((((atI b1 x5_0).2).2).2).2).2).2).2).2).2)))).bind fun b2 => cond (decide (0 ≤ x5_0)) (cond (decide (x5_0 < ((b2.length : Nat) : Int))) ((sto (b2.set x5_0.toNat ((atI b2 x5_0).1, ((atI b2 x5_0).2).1, IntKind.i64.wrap ((IntKind.i64.wrap (x1_0 + 1)) + 1), ((((atI b2 x5_0).2).2).2).1, (((((atI b2 x5_0).2).2).2).2).1, ((((((atI b2 x5_0).2).2).2).2).2).1, (((((((atI b2 x5_0).2).2).2).2).2).2).1, ((((((((atI b2 x5_0).2).2).2).2).2).2).2).1, (((((((((atI b2 x5_0).2).2).2).2).2).2).2).2).1, ((((((((((atI b2 x5_0).2).2).2).2).2).2).2).2).2)))).bind fun b3 => cond (decide (0 ≤ x5_0)) (cond (decide (x5_0 < ((b3.length : Nat) : Int))) ((sto (b3.set x5_0.toNat ((atI b3 x5_0).1, ((atI b3 x5_0).2).1, (((atI b3 x5_0).2).2).1, IntKind.i64.wrap ((IntKind.i64.wrap ((IntKind.i64.wrap (x1_0 + 1)) + 1)) + 1), (((((atI b3 x5_0).2).2).2).2).1, ((((((atI b3 x5_0).2).2).2).2).2).1, (((((((atI b3 x5_0).2).2).2).2).2).2).1, ((((((((atI b3 x5_0).2).2).2).2).2).2).2).1, (((((((((atI b3 x5_0).2).2).2).2).2).2).2).2).1, ((((((((((atI b3 x5_0).2).2).2).2).2).2).2).2).2)))).bind fun b4 => cond (decide (0 ≤ x5_0)) (cond (decide (x5_0 < ((b4.length : Nat) : Int))) ((sto (b4.set x5_0.toNat ((atI b4 x5_0).1, ((atI b4 x5_0).2).1, (((atI b4 x5_0).2).2).1, ((((atI b4 x5_0).2).2).2).1, IntKind.i64.wrap ((IntKind.i64.wrap ((IntKind.i64.wrap ((IntKind.i64.wrap (x1_0 + 1)) + 1)) + 1)) + 1), ((((((atI b4 x5_0).2).2).2).2).2).1, (((((((atI b4 x5_0).2).2).2).2).2).2).1, ((((((((atI b4 x5_0).2).2).2).2).2).2).2).1, (((((((((atI b4 x5_0).2).2).2).2).2).2).2).2).1, ((((((((((atI b4 x5_0).2).2).2).2).2).2).2).2).2)))).bind fun b5 => cond (decide (0 ≤ x5_0)) (cond (decide (x5_0 < ((b5.length : Nat) : Int))) ((sto (b5.set x5_0.toNat ((atI b5 x5_0).1, ((atI b5 x5_0).2).1, (((atI b5 x5_0).2).2).1, ((((atI b5 x5_0).2).2).2).1, (((((atI b5 x5_0).2).2).2).2).1, (((IntKind.i64.wrap ((IntKind.i64.wrap ((IntKind.i64.wrap ((IntKind.i64.wrap ((IntKind.i64.wrap (x1_0 + 1)) + 1)) + 1)) + 1)) + 1)).tmod 3) == 0), (((((((atI b5 x5_0).2).2).2).2).2).2).1, ((((((((atI b5 x5_0).2).2).2).2).2).2).2).1, (((((((((atI b5 x5_0).2).2).2).2).2).2).2).2).1, ((((((((((atI b5 x5_0).2).2).2).2).2).2).2).2).2)))).bind fun b6 => cond (decide (0 ≤ x5_0)) (cond (decide (x5_0 < ((b6.length : Nat) : Int))) ((sto (b6.set x5_0.toNat ((atI b6 x5_0).1, ((atI b6 x5_0).2).1, (((atI b6 x5_0).2).2).1, ((((atI b6 x5_0).2).2).2).1, (((((atI b6 x5_0).2).2).2).2).1, ((((((atI b6 x5_0).2).2).2).2).2).1, (((IntKind.i64.wrap ((IntKind.i64.wrap ((IntKind.i64.wrap ((IntKind.i64.wrap ((IntKind.i64.wrap ((IntKind.i64.wrap (x1_0 + 1)) + 1)) + 1)) + 1)) + 1)) + 1)).tmod 3) == 0), ((((((((atI b6 x5_0).2).2).2).2).2).2).2).1, (((((((((atI b6 x5_0).2).2).2).2).2).2).2).2).1, ((((((((((atI b6 x5_0).2).2).2).2).2).2).2).2).2)))).bind fun b7 => cond (decide (0 ≤ x5_0)) (cond (decide (x5_0 < ((b7.length : Nat) : Int))) ((sto (b7.set x5_0.toNat ((atI b7 x5_0).1, ((atI b7 x5_0).2).1, (((atI b7 x5_0).2).2).1, ((((atI b7 x5_0).2).2).2).1, (((((atI b7 x5_0).2).2).2).2).1, ((((((atI b7 x5_0).2).2).2).2).2).1, (((((((atI b7 x5_0).2).2).2).2).2).2).1, (((IntKind.i64.wrap ((IntKind.i64.wrap ((IntKind.i64.wrap ((IntKind.i64.wrap ((IntKind.i64.wrap ((IntKind.i64.wrap ((IntKind.i64.wrap (x1_0 + 1)) + 1)) + 1)) + 1)) + 1)) + 1)) + 1)).tmod 3) == 0), (((((((((atI b7 x5_0).2).2).2).2).2).2).2).2).1, ((((((((((atI b7 x5_0).2).2).2).2).2).2).2).2).2)))).bind fun b8 => cond (decide (0 ≤ x5_0)) (cond (decide (x5_0 < ((b8.length : Nat) : Int))) ((sto (b8.set x5_0.toNat ((atI b8 x5_0).1, ((atI b8 x5_0).2).1, (((atI b8 x5_0).2).2).1, ((((atI b8 x5_0).2).2).2).1, (((((atI b8 x5_0).2).2).2).2).1, ((((((atI b8 x5_0).2).2).2).2).2).1, (((((((atI b8 x5_0).2).2).2).2).2).2).1, ((((((((atI b8 x5_0).2).2).2).2).2).2).2).1, (((IntKind.i64.wrap ((IntKind.i64.wrap ((IntKind.i64.wrap ((IntKind.i64.wrap ((IntKind.i64.wrap ((IntKind.i64.wrap ((IntKind.i64.wrap ((IntKind.i64.wrap (x1_0 + 1)) + 1)) + 1)) + 1)) + 1)) + 1)) + 1)) + 1)).tmod 3) == 0), ((((((((((atI b8 x5_0).2).2).2).2).2).2).2).2).2)))).bind fun b9 => cond (decide (0 ≤ x5_0)) (cond (decide (x5_0 < ((b9.length : Nat) : Int))) ((F69 k (((((((((((atI b9 x5_0).2).2).2).2).2).2).2).2).2).1) (IntKind.i64.wrap ((IntKind.i64.wrap ((IntKind.i64.wrap ((IntKind.i64.wrap ((IntKind.i64.wrap ((IntKind.i64.wrap ((IntKind.i64.wrap ((IntKind.i64.wrap ((IntKind.i64.wrap (x1_0 + 1)) + 1)) + 1)) + 1)) + 1)) + 1)) + 1)) + 1)) + 1))).bind fun b10 => cond (decide (0 ≤ x5_0)) (cond (decide (x5_0 < (((b9.set x5_0.toNat ((atI b9 x5_0).1, ((atI b9 x5_0).2).1, (((atI b9 x5_0).2).2).1, ((((atI b9 x5_0).2).2).2).1, (((((atI b9 x5_0).2).2).2).2).1, ((((((atI b9 x5_0).2).2).2).2).2).1, (((((((atI b9 x5_0).2).2).2).2).2).2).1, ((((((((atI b9 x5_0).2).2).2).2).2).2).2).1, (((((((((atI b9 x5_0).2).2).2).2).2).2).2).2).1, b10.2, ((((((((((atI b9 x5_0).2).2).2).2).2).2).2).2).2).2)).length : Nat) : Int))) ((F32 k (((((((((((atI (b9.set x5_0.toNat ((atI b9 x5_0).1, ((atI b9 x5_0).2).1, (((atI b9 x5_0).2).2).1, ((((atI b9 x5_0).2).2).2).1, (((((atI b9 x5_0).2).2).2).2).1, ((((((atI b9 x5_0).2).2).2).2).2).1, (((((((atI b9 x5_0).2).2).2).2).2).2).1, ((((((((atI b9 x5_0).2).2).2).2).2).2).2).1, (((((((((atI b9 x5_0).2).2).2).2).2).2).2).2).1, b10.2, ((((((((((atI b9 x5_0).2).2).2).2).2).2).2).2).2).2)) x5_0).2).2).2).2).2).2).2).2).2).2) b10.1).bind fun b11 => NX b11.1 (IntKind.i64.wrap (x5_0 + 1)) ((b9.set x5_0.toNat ((atI b9 x5_0).1, ((atI b9 x5_0).2).1, (((atI b9 x5_0).2).2).1, ((((atI b9 x5_0).2).2).2).1, (((((atI b9 x5_0).2).2).2).2).1, ((((((atI b9 x5_0).2).2).2).2).2).1, (((((((atI b9 x5_0).2).2).2).2).2).2).1, ((((((((atI b9 x5_0).2).2).2).2).2).2).2).1, (((((((((atI b9 x5_0).2).2).2).2).2).2).2).2).1, b10.2, ((((((((((atI b9 x5_0).2).2).2).2).2).2).2).2).2).2)).set x5_0.toNat ((atI (b9.set x5_0.toNat ((atI b9 x5_0).1, ((atI b9 x5_0).2).1, (((atI b9 x5_0).2).2).1, ((((atI b9 x5_0).2).2).2).1, (((((atI b9 x5_0).2).2).2).2).1, ((((((atI b9 x5_0).2).2).2).2).2).1, (((((((atI b9 x5_0).2).2).2).2).2).2).1, ((((((((atI b9 x5_0).2).2).2).2).2).2).2).1, (((((((((atI b9 x5_0).2).2).2).2).2).2).2).2).1, b10.2, ((((((((((atI b9 x5_0).2).2).2).2).2).2).2).2).2).2)) x5_0).1, ((atI (b9.set x5_0.toNat ((atI b9 x5_0).1, ((atI b9 x5_0).2).1, (((atI b9 x5_0).2).2).1, ((((atI b9 x5_0).2).2).2).1, (((((atI b9 x5_0).2).2).2).2).1, ((((((atI b9 x5_0).2).2).2).2).2).1, (((((((atI b9 x5_0).2).2).2).2).2).2).1, ((((((((atI b9 x5_0).2).2).2).2).2).2).2).1, (((((((((atI b9 x5_0).2).2).2).2).2).2).2).2).1, b10.2, ((((((((((atI b9 x5_0).2).2).2).2).2).2).2).2).2).2)) x5_0).2).1, (((atI (b9.set x5_0.toNat ((atI b9 x5_0).1, ((atI b9 x5_0).2).1, (((atI b9 x5_0).2).2).1, ((((atI b9 x5_0).2).2).2).1, (((((atI b9 x5_0).2).2).2).2).1, ((((((atI b9 x5_0).2).2).2).2).2).1, (((((((atI b9 x5_0).2).2).2).2).2).2).1, ((((((((atI b9 x5_0).2).2).2).2).2).2).2).1, (((((((((atI b9 x5_0).2).2).2).2).2).2).2).2).1, b10.2, ((((((((((atI b9 x5_0).2).2).2).2).2).2).2).2).2).2)) x5_0).2).2).1, ((((atI (b9.set x5_0.toNat ((atI b9 x5_0).1, ((atI b9 x5_0).2).1, (((atI b9 x5_0).2).2).1, ((((atI b9 x5_0).2).2).2).1, (((((atI b9 x5_0).2).2).2).2).1, ((((((atI b9 x5_0).2).2).2).2).2).1, (((((((atI b9 x5_0).2).2).2).2).2).2).1, ((((((((atI b9 x5_0).2).2).2).2).2).2).2).1, (((((((((atI b9 x5_0).2).2).2).2).2).2).2).2).1, b10.2, ((((((((((atI b9 x5_0).2).2).2).2).2).2).2).2).2).2)) x5_0).2).2).2).1, (((((atI (b9.set x5_0.toNat ((atI b9 x5_0).1, ((atI b9 x5_0).2).1, (((atI b9 x5_0).2).2).1, ((((atI b9 x5_0).2).2).2).1, (((((atI b9 x5_0).2).2).2).2).1, ((((((atI b9 x5_0).2).2).2).2).2).1, (((((((atI b9 x5_0).2).2).2).2).2).2).1, ((((((((atI b9 x5_0).2).2).2).2).2).2).2).1, (((((((((atI b9 x5_0).2).2).2).2).2).2).2).2).1, b10.2, ((((((((((atI b9 x5_0).2).2).2).2).2).2).2).2).2).2)) x5_0).2).2).2).2).1, ((((((atI (b9.set x5_0.toNat ((atI b9 x5_0).1, ((atI b9 x5_0).2).1, (((atI b9 x5_0).2).2).1, ((((atI b9 x5_0).2).2).2).1, (((((atI b9 x5_0).2).2).2).2).1, ((((((atI b9 x5_0).2).2).2).2).2).1, (((((((atI b9 x5_0).2).2).2).2).2).2).1, ((((((((atI b9 x5_0).2).2).2).2).2).2).2).1, (((((((((atI b9 x5_0).2).2).2).2).2).2).2).2).1, b10.2, ((((((((((atI b9 x5_0).2).2).2).2).2).2).2).2).2).2)) x5_0).2).2).2).2).2).1, (((((((atI (b9.set x5_0.toNat ((atI b9 x5_0).1, ((atI b9 x5_0).2).1, (((atI b9 x5_0).2).2).1, ((((atI b9 x5_0).2).2).2).1, (((((atI b9 x5_0).2).2).2).2).1, ((((((atI b9 x5_0).2).2).2).2).2).1, (((((((atI b9 x5_0).2).2).2).2).2).2).1, ((((((((atI b9 x5_0).2).2).2).2).2).2).2).1, (((((((((atI b9 x5_0).2).2).2).2).2).2).2).2).1, b10.2, ((((((((((atI b9 x5_0).2).2).2).2).2).2).2).2).2).2)) x5_0).2).2).2).2).2).2).1, ((((((((atI (b9.set x5_0.toNat ((atI b9 x5_0).1, ((atI b9 x5_0).2).1, (((atI b9 x5_0).2).2).1, ((((atI b9 x5_0).2).2).2).1, (((((atI b9 x5_0).2).2).2).2).1, ((((((atI b9 x5_0).2).2).2).2).2).1, (((((((atI b9 x5_0).2).2).2).2).2).2).1, ((((((((atI b9 x5_0).2).2).2).2).2).2).2).1, (((((((((atI b9 x5_0).2).2).2).2).2).2).2).2).1, b10.2, ((((((((((atI b9 x5_0).2).2).2).2).2).2).2).2).2).2)) x5_0).2).2).2).2).2).2).2).1, (((((((((atI (b9.set x5_0.toNat ((atI b9 x5_0).1, ((atI b9 x5_0).2).1, (((atI b9 x5_0).2).2).1, ((((atI b9 x5_0).2).2).2).1, (((((atI b9 x5_0).2).2).2).2).1, ((((((atI b9 x5_0).2).2).2).2).2).1, (((((((atI b9 x5_0).2).2).2).2).2).2).1, ((((((((atI b9 x5_0).2).2).2).2).2).2).2).1, (((((((((atI b9 x5_0).2).2).2).2).2).2).2).2).1, b10.2, ((((((((((atI b9 x5_0).2).2).2).2).2).2).2).2).2).2)) x5_0).2).2).2).2).2).2).2).2).1, ((((((((((atI (b9.set x5_0.toNat ((atI b9 x5_0).1, ((atI b9 x5_0).2).1, (((atI b9 x5_0).2).2).1, ((((atI b9 x5_0).2).2).2).1, (((((atI b9 x5_0).2).2).2).2).1, ((((((atI b9 x5_0).2).2).2).2).2).1, (((((((atI b9 x5_0).2).2).2).2).2).2).1, ((((((((atI b9 x5_0).2).2).2).2).2).2).2).1, (((((((((atI b9 x5_0).2).2).2).2).2).2).2).2).1, b10.2, ((((((((((atI b9 x5_0).2).2).2).2).2).2).2).2).2).2)) x5_0).2).2).2).2).2).2).2).2).2).1, b11.2))) none) none) none) none) none) none) none) none) none) none) none) none) none) none) none) none) none) none) none) none) none) none) (RET (x1_0, m0_0))
def F27_l0 (k : Nat) (a0 : List (den seg)) (a1 : Int) : Nat → Int → Int → List (den seg) → Option (Int × List (den seg))
  | 0, _, _, _ => none
  | n + 1, x1_0, x5_0, m0_0 => F27_l0_T k a0 a1 (fun x1_0 x5_0 m0_0 => F27_l0 k a0 a1 n x1_0 x5_0 m0_0) some x1_0 x5_0 m0_0
theorem F27_l0_rd {β : Type} (k n : Nat) (a0 : List (den seg)) (a1 : Int) (x1_0 x5_0 : Int) (m0_0 : List (den seg)) (K : A × List (List Leaf) → Option β) :
    loopG (F27_E k) Try.f27 [1, 0, 1, 0] 0 (kontAt (F27_E k) [1, 0, 1, 0] (bodyOf Try.f27) 0 (endC (F27_E k) Try.f27 (F27_a a0 a1) K)) (n + 1) (F27_s0 a0 a1 x1_0 x5_0 m0_0) =
    F27_l0_T k a0 a1 (fun x1_0 x5_0 m0_0 => loopG (F27_E k) Try.f27 [1, 0, 1, 0] 0 (kontAt (F27_E k) [1, 0, 1, 0] (bodyOf Try.f27) 0 (endC (F27_E k) Try.f27 (F27_a a0 a1) K)) n (F27_s0 a0 a1 x1_0 x5_0 m0_0)) (fun r => K (F27_r r)) x1_0 x5_0 m0_0 := by kernel_rfl
theorem F27_l0_lp {β : Type} (k : Nat) (a0 : List (den seg)) (a1 : Int) (K : A × List (List Leaf) → Option β) (n : Nat) : ∀ (x1_0 x5_0 : Int) (m0_0 : List (den seg)), loopG (F27_E k) Try.f27 [1, 0, 1, 0] 0 (kontAt (F27_E k) [1, 0, 1, 0] (bodyOf Try.f27) 0 (endC (F27_E k) Try.f27 (F27_a a0 a1) K)) n (F27_s0 a0 a1 x1_0 x5_0 m0_0) =
    (F27_l0 k a0 a1 n x1_0 x5_0 m0_0).bind fun r => K (F27_r r) := by
  induction n with
  | zero => intros; rfl
  | succ n ih =>
    intros
    rw [F27_l0_rd, F27_l0]
    simp only [F27_l0_T, bind_cond, Option.bind_assoc, Option.bind_some, Option.bind_none, Option.bind_fun_some, ih]
def F27_T {β : Type} (k : Nat) (a0 : List (den seg)) (a1 : Int) (LP0 : Int → Int → List (den seg) → Option β) : Option β := LP0 a1 0 a0
def F27 (k : Nat) (a0 : List (den seg)) (a1 : Int) : Option (Int × List (den seg)) := F27_T k a0 a1 (fun x1_0 x5_0 m0_0 => F27_l0 k a0 a1 k x1_0 x5_0 m0_0)
theorem F27_st {β : Type} (k : Nat) (a0 : List (den seg)) (a1 : Int) (K : A × List (List Leaf) → Option β) : evalF (F27_E k) Try.f27 (F27_a a0 a1) K =
    F27_T k a0 a1 (fun x1_0 x5_0 m0_0 => loopG (F27_E k) Try.f27 [1, 0, 1, 0] 0 (kontAt (F27_E k) [1, 0, 1, 0] (bodyOf Try.f27) 0 (endC (F27_E k) Try.f27 (F27_a a0 a1) K)) k (F27_s0 a0 a1 x1_0 x5_0 m0_0)) := by kernel_rfl
theorem F27_ev {β : Type} (k : Nat) (a0 : List (den seg)) (a1 : Int) (K : A × List (List Leaf) → Option β) : evalF (F27_E k) Try.f27 (F27_a a0 a1) K = (F27 k a0 a1).bind fun r => K (F27_r r) := by
  rw [F27_st, F27]
  simp only [F27_T, bind_cond, Option.bind_assoc, Option.bind_some, Option.bind_none, Option.bind_fun_some, F27_l0_lp]
theorem F27_tOk (k : Nat) : TabFn Try.prog (F27_t k) := .ent (F69_q k) F69_f (.ent (F32_q k) F32_f (.none))
theorem F27_con (k : Nat) (a0 : List (den seg)) (a1 : Int) : Contract Try.prog 27 (F27_a a0 a1) ⟨F27 k a0 a1, F27_r⟩ := con_of (envOk (F27_tOk k) _ _ _ _) mixed Try.func27 rfl rfl (F27_ev k a0 a1 some)
def F27_sh : List AK := [.one (.b (.sl .own seg)), .one (.l (.int .i64))]
def F27_p (k : Nat) : List Arg → Option CR := cle F27_sh fun x => ⟨F27 k x.1 x.2.1, F27_r⟩
theorem F27_q (k : Nat) : ∀ xs cr, F27_p k xs = some cr → Contract Try.prog 27 xs cr := cle_ok fun x => F27_con k _ _
theorem F27_f : FnOk Try.prog 27 := .of (by kernel_rfl)
/-! 70: loop.example/netstack/laws.heldRangeS -/
def F70_h : Nat → Hint
  | 0 => ⟨[(0, .plain), (1, .plain), (5, .plain)], []⟩
  | _ => ⟨[], []⟩
abbrev F70_E (k : Nat) : Env := env noTab F70_h .own [] k
abbrev F70_a (a0 : List (den rng)) (a1 : Int) : List Arg := [.one (.l (.s .ro rng a0)), .one (.l (.v (.int .i64 a1)))]
def F70_r (r : Int) : A × List (List Leaf) := (.one (.v (.int .i64 r)), [])
def F70_s0 (a0 : List (den rng)) (a1 : Int) (x1_0 x5_0 : Int) : St := ⟨(.one (.s .ro rng a0)) :: (.one (.v (.int .i64 x1_0))) :: dz 3 ((.one (.v (.int .i64 x5_0))) :: dz 25 []), []⟩
def F70_l0_T {β : Type} (k : Nat) (a0 : List (den rng)) (a1 : Int) (NX : Int → Int → Option β) (RET : Int → Option β) (x1_0 x5_0 : Int) : Option β := cond (decide (x5_0 < ((a0.length : Nat) : Int))) (cond (decide (0 ≤ x5_0)) (cond (decide (x5_0 < ((a0.length : Nat) : Int))) (cond (((atI a0 x5_0).1) != x1_0) (RET (-1)) (cond (decide (0 ≤ x5_0)) (cond (decide (x5_0 < ((a0.length : Nat) : Int))) (cond (((atI a0 x5_0).2) != (IntKind.i64.wrap (x1_0 + 1))) (RET (-1)) (NX (IntKind.i64.wrap ((IntKind.i64.wrap (x1_0 + 1)) + 1)) (IntKind.i64.wrap (x5_0 + 1)))) none) none)) none) none) (RET x1_0)
def F70_l0 (k : Nat) (a0 : List (den rng)) (a1 : Int) : Nat → Int → Int → Option (Int)
  | 0, _, _ => none
  | n + 1, x1_0, x5_0 => F70_l0_T k a0 a1 (fun x1_0 x5_0 => F70_l0 k a0 a1 n x1_0 x5_0) some x1_0 x5_0
theorem F70_l0_rd {β : Type} (k n : Nat) (a0 : List (den rng)) (a1 : Int) (x1_0 x5_0 : Int) (K : A × List (List Leaf) → Option β) :
    loopG (F70_E k) Try.f70 [1, 0, 1, 0] 0 (kontAt (F70_E k) [1, 0, 1, 0] (bodyOf Try.f70) 0 (endC (F70_E k) Try.f70 (F70_a a0 a1) K)) (n + 1) (F70_s0 a0 a1 x1_0 x5_0) =
    F70_l0_T k a0 a1 (fun x1_0 x5_0 => loopG (F70_E k) Try.f70 [1, 0, 1, 0] 0 (kontAt (F70_E k) [1, 0, 1, 0] (bodyOf Try.f70) 0 (endC (F70_E k) Try.f70 (F70_a a0 a1) K)) n (F70_s0 a0 a1 x1_0 x5_0)) (fun r => K (F70_r r)) x1_0 x5_0 := by kernel_rfl
theorem F70_l0_lp {β : Type} (k : Nat) (a0 : List (den rng)) (a1 : Int) (K : A × List (List Leaf) → Option β) (n : Nat) : ∀ (x1_0 x5_0 : Int), loopG (F70_E k) Try.f70 [1, 0, 1, 0] 0 (kontAt (F70_E k) [1, 0, 1, 0] (bodyOf Try.f70) 0 (endC (F70_E k) Try.f70 (F70_a a0 a1) K)) n (F70_s0 a0 a1 x1_0 x5_0) =
    (F70_l0 k a0 a1 n x1_0 x5_0).bind fun r => K (F70_r r) := by
  induction n with
  | zero => intros; rfl
  | succ n ih =>
    intros
    rw [F70_l0_rd, F70_l0]
    simp only [F70_l0_T, bind_cond, Option.bind_assoc, Option.bind_some, Option.bind_none, Option.bind_fun_some, ih]
def F70_T {β : Type} (k : Nat) (a0 : List (den rng)) (a1 : Int) (LP0 : Int → Int → Option β) : Option β := LP0 a1 0
def F70 (k : Nat) (a0 : List (den rng)) (a1 : Int) : Option (Int) := F70_T k a0 a1 (fun x1_0 x5_0 => F70_l0 k a0 a1 k x1_0 x5_0)
theorem F70_st {β : Type} (k : Nat) (a0 : List (den rng)) (a1 : Int) (K : A × List (List Leaf) → Option β) : evalF (F70_E k) Try.f70 (F70_a a0 a1) K =
    F70_T k a0 a1 (fun x1_0 x5_0 => loopG (F70_E k) Try.f70 [1, 0, 1, 0] 0 (kontAt (F70_E k) [1, 0, 1, 0] (bodyOf Try.f70) 0 (endC (F70_E k) Try.f70 (F70_a a0 a1) K)) k (F70_s0 a0 a1 x1_0 x5_0)) := by kernel_rfl
theorem F70_ev {β : Type} (k : Nat) (a0 : List (den rng)) (a1 : Int) (K : A × List (List Leaf) → Option β) : evalF (F70_E k) Try.f70 (F70_a a0 a1) K = (F70 k a0 a1).bind fun r => K (F70_r r) := by
  rw [F70_st, F70]
  simp only [F70_T, bind_cond, Option.bind_assoc, Option.bind_some, Option.bind_none, Option.bind_fun_some, F70_l0_lp]
theorem F70_con (k : Nat) (a0 : List (den rng)) (a1 : Int) : Contract Try.prog 70 (F70_a a0 a1) ⟨F70 k a0 a1, F70_r⟩ := con_of (envOk .none _ _ _ _) mixed Try.func70 rfl rfl (F70_ev k a0 a1 some)
def F70_sh : List AK := [.one (.l (.sl .ro rng)), .one (.l (.int .i64))]
def F70_p (k : Nat) : List Arg → Option CR := cle F70_sh fun x => ⟨F70 k x.1 x.2.1, F70_r⟩
theorem F70_q (k : Nat) : ∀ xs cr, F70_p k xs = some cr → Contract Try.prog 70 xs cr := cle_ok fun x => F70_con k _ _
theorem F70_f : FnOk Try.prog 70 := .of (by kernel_rfl)
/-! 33: loop.example/netstack/laws.heldByteS -/
def F33_h : Nat → Hint
  | 0 => ⟨[(0, .plain), (1, .plain), (5, .plain)], []⟩
  | _ => ⟨[], []⟩
abbrev F33_E (k : Nat) : Env := env noTab F33_h .own [] k
abbrev F33_a (a0 : List (den (.int .u8))) (a1 : Int) : List Arg := [.one (.l (.s .ro (.int .u8) a0)), .one (.l (.v (.int .i64 a1)))]
def F33_r (r : Int) : A × List (List Leaf) := (.one (.v (.int .i64 r)), [])
def F33_s0 (a0 : List (den (.int .u8))) (a1 : Int) (x1_0 x5_0 : Int) : St := ⟨(.one (.s .ro (.int .u8) a0)) :: (.one (.v (.int .i64 x1_0))) :: dz 3 ((.one (.v (.int .i64 x5_0))) :: dz 16 []), []⟩
def F33_l0_T {β : Type} (k : Nat) (a0 : List (den (.int .u8))) (a1 : Int) (NX : Int → Int → Option β) (RET : Int → Option β) (x1_0 x5_0 : Int) : Option β := cond (decide (x5_0 < ((a0.length : Nat) : Int))) (cond (decide (0 ≤ x5_0)) (cond (decide (x5_0 < ((a0.length : Nat) : Int))) (cond ((atI a0 x5_0) != (IntKind.u8.wrap (x1_0))) (RET (-1)) (NX (IntKind.i64.wrap (x1_0 + 1)) (IntKind.i64.wrap (x5_0 + 1)))) none) none) (RET x1_0)
def F33_l0 (k : Nat) (a0 : List (den (.int .u8))) (a1 : Int) : Nat → Int → Int → Option (Int)
  | 0, _, _ => none
  | n + 1, x1_0, x5_0 => F33_l0_T k a0 a1 (fun x1_0 x5_0 => F33_l0 k a0 a1 n x1_0 x5_0) some x1_0 x5_0
theorem F33_l0_rd {β : Type} (k n : Nat) (a0 : List (den (.int .u8))) (a1 : Int) (x1_0 x5_0 : Int) (K : A × List (List Leaf) → Option β) :
    loopG (F33_E k) Try.f33 [1, 0, 1, 0] 0 (kontAt (F33_E k) [1, 0, 1, 0] (bodyOf Try.f33) 0 (endC (F33_E k) Try.f33 (F33_a a0 a1) K)) (n + 1) (F33_s0 a0 a1 x1_0 x5_0) =
    F33_l0_T k a0 a1 (fun x1_0 x5_0 => loopG (F33_E k) Try.f33 [1, 0, 1, 0] 0 (kontAt (F33_E k) [1, 0, 1, 0] (bodyOf Try.f33) 0 (endC (F33_E k) Try.f33 (F33_a a0 a1) K)) n (F33_s0 a0 a1 x1_0 x5_0)) (fun r => K (F33_r r)) x1_0 x5_0 := by kernel_rfl
theorem F33_l0_lp {β : Type} (k : Nat) (a0 : List (den (.int .u8))) (a1 : Int) (K : A × List (List Leaf) → Option β) (n : Nat) : ∀ (x1_0 x5_0 : Int), loopG (F33_E k) Try.f33 [1, 0, 1, 0] 0 (kontAt (F33_E k) [1, 0, 1, 0] (bodyOf Try.f33) 0 (endC (F33_E k) Try.f33 (F33_a a0 a1) K)) n (F33_s0 a0 a1 x1_0 x5_0) =
    (F33_l0 k a0 a1 n x1_0 x5_0).bind fun r => K (F33_r r) := by
  induction n with
  | zero => intros; rfl
  | succ n ih =>
    intros
    rw [F33_l0_rd, F33_l0]
    simp only [F33_l0_T, bind_cond, Option.bind_assoc, Option.bind_some, Option.bind_none, Option.bind_fun_some, ih]
def F33_T {β : Type} (k : Nat) (a0 : List (den (.int .u8))) (a1 : Int) (LP0 : Int → Int → Option β) : Option β := LP0 a1 0
def F33 (k : Nat) (a0 : List (den (.int .u8))) (a1 : Int) : Option (Int) := F33_T k a0 a1 (fun x1_0 x5_0 => F33_l0 k a0 a1 k x1_0 x5_0)
theorem F33_st {β : Type} (k : Nat) (a0 : List (den (.int .u8))) (a1 : Int) (K : A × List (List Leaf) → Option β) : evalF (F33_E k) Try.f33 (F33_a a0 a1) K =
    F33_T k a0 a1 (fun x1_0 x5_0 => loopG (F33_E k) Try.f33 [1, 0, 1, 0] 0 (kontAt (F33_E k) [1, 0, 1, 0] (bodyOf Try.f33) 0 (endC (F33_E k) Try.f33 (F33_a a0 a1) K)) k (F33_s0 a0 a1 x1_0 x5_0)) := by kernel_rfl
theorem F33_ev {β : Type} (k : Nat) (a0 : List (den (.int .u8))) (a1 : Int) (K : A × List (List Leaf) → Option β) : evalF (F33_E k) Try.f33 (F33_a a0 a1) K = (F33 k a0 a1).bind fun r => K (F33_r r) := by
  rw [F33_st, F33]
  simp only [F33_T, bind_cond, Option.bind_assoc, Option.bind_some, Option.bind_none, Option.bind_fun_some, F33_l0_lp]
theorem F33_con (k : Nat) (a0 : List (den (.int .u8))) (a1 : Int) : Contract Try.prog 33 (F33_a a0 a1) ⟨F33 k a0 a1, F33_r⟩ := con_of (envOk .none _ _ _ _) mixed Try.func33 rfl rfl (F33_ev k a0 a1 some)
def F33_sh : List AK := [.one (.l (.sl .ro (.int .u8))), .one (.l (.int .i64))]
def F33_p (k : Nat) : List Arg → Option CR := cle F33_sh fun x => ⟨F33 k x.1 x.2.1, F33_r⟩
theorem F33_q (k : Nat) : ∀ xs cr, F33_p k xs = some cr → Contract Try.prog 33 xs cr := cle_ok fun x => F33_con k _ _
theorem F33_f : FnOk Try.prog 33 := .of (by kernel_rfl)
/-! 28: loop.example/netstack/laws.heldSegmentS -/
def F28_h : Nat → Hint
  | 0 => ⟨[(0, .plain), (1, .plain), (5, .plain)], []⟩
  | _ => ⟨[], []⟩
def F28_t (k : Nat) : Tab := entT 70 (F70_p k) <| entT 33 (F33_p k) <| noTab
abbrev F28_E (k : Nat) : Env := env (F28_t k) F28_h .own [] k
abbrev F28_a (a0 : List (den seg)) (a1 : Int) : List Arg := [.one (.l (.s .ro seg a0)), .one (.l (.v (.int .i64 a1)))]
def F28_r (r : Int) : A × List (List Leaf) := (.one (.v (.int .i64 r)), [])
def F28_s0 (a0 : List (den seg)) (a1 : Int) (x1_0 x5_0 : Int) : St := ⟨(.one (.s .ro seg a0)) :: (.one (.v (.int .i64 x1_0))) :: dz 3 ((.one (.v (.int .i64 x5_0))) :: dz 114 []), []⟩
def F28_l0_T {β : Type} (k : Nat) (a0 : List (den seg)) (a1 : Int) (NX : Int → Int → Option β) (RET : Int → Option β) (x1_0 x5_0 : Int) : Option β := cond (decide (x5_0 < ((a0.length : Nat) : Int))) (cond (decide (0 ≤ x5_0)) (cond (decide (x5_0 < ((a0.length : Nat) : Int))) (cond (((atI a0 x5_0).1) != x1_0) (RET (-1)) (cond (decide (0 ≤ x5_0)) (cond (decide (x5_0 < ((a0.length : Nat) : Int))) (cond ((((atI a0 x5_0).2).1) != (IntKind.i64.wrap (x1_0 + 1))) (RET (-1)) (cond (decide (0 ≤ x5_0)) (cond (decide (x5_0 < ((a0.length : Nat) : Int))) (cond (((((atI a0 x5_0).2).2).1) != (IntKind.i64.wrap ((IntKind.i64.wrap (x1_0 + 1)) + 1))) (RET (-1)) (cond (decide (0 ≤ x5_0)) (cond (decide (x5_0 < ((a0.length : Nat) : Int))) (cond ((((((atI a0 x5_0).2).2).2).1) != (IntKind.i64.wrap ((IntKind.i64.wrap ((IntKind.i64.wrap (x1_0 + 1)) + 1)) + 1))) (RET (-1)) (cond (decide (0 ≤ x5_0)) (cond (decide (x5_0 < ((a0.length : Nat) : Int))) (cond (((((((atI a0 x5_0).2).2).2).2).1) != (IntKind.i64.wrap ((IntKind.i64.wrap ((IntKind.i64.wrap ((IntKind.i64.wrap (x1_0 + 1)) + 1)) + 1)) + 1))) (RET (-1)) (cond (decide (0 ≤ x5_0)) (cond (decide (x5_0 < ((a0.length : Nat) : Int))) (cond (!((((((((atI a0 x5_0).2).2).2).2).2).1) == (((IntKind.i64.wrap ((IntKind.i64.wrap ((IntKind.i64.wrap ((IntKind.i64.wrap ((IntKind.i64.wrap (x1_0 + 1)) + 1)) + 1)) + 1)) + 1)).tmod 3) == 0))) (RET (-1)) (cond (decide (0 ≤ x5_0)) (cond (decide (x5_0 < ((a0.length : Nat) : Int))) (cond (!(((((((((atI a0 x5_0).2).2).2).2).2).2).1) == (((IntKind.i64.wrap ((IntKind.i64.wrap ((IntKind.i64.wrap ((IntKind.i64.wrap ((IntKind.i64.wrap ((IntKind.i64.wrap (x1_0 + 1)) + 1)) + 1)) + 1)) + 1)) + 1)).tmod 3) == 0))) (RET (-1)) (cond (decide (0 ≤ x5_0)) (cond (decide (x5_0 < ((a0.length : Nat) : Int))) (cond (!((((((((((atI a0 x5_0).2).2).2).2).2).2).2).1) == (((IntKind.i64.wrap ((IntKind.i64.wrap ((IntKind.i64.wrap ((IntKind.i64.wrap ((IntKind.i64.wrap ((IntKind.i64.wrap ((IntKind.i64.wrap (x1_0 + 1)) + 1)) + 1)) + 1)) + 1)) + 1)) + 1)).tmod 3) == 0))) (RET (-1)) (cond (decide (0 ≤ x5_0)) (cond (decide (x5_0 < ((a0.length : Nat) : Int))) (cond (!(((((((((((atI a0 x5_0).2).2).2).2).2).2).2).2).1) == (((IntKind.i64.wrap ((IntKind.i64.wrap ((IntKind.i64.wrap ((IntKind.i64.wrap ((IntKind.i64.wrap ((IntKind.i64.wrap ((IntKind.i64.wrap ((IntKind.i64.wrap (x1_0 + 1)) + 1)) + 1)) + 1)) + 1)) + 1)) + 1)) + 1)).tmod 3) == 0))) (RET (-1)) (cond (decide (0 ≤ x5_0)) (cond (decide (x5_0 < ((a0.length : Nat) : Int))) ((F70 k (((((((((((atI a0 x5_0).2).2).2).2).2).2).2).2).2).1) (IntKind.i64.wrap ((IntKind.i64.wrap ((IntKind.i64.wrap ((IntKind.i64.wrap ((IntKind.i64.wrap ((IntKind.i64.wrap ((IntKind.i64.wrap ((IntKind.i64.wrap ((IntKind.i64.wrap (x1_0 + 1)) + 1)) + 1)) + 1)) + 1)) + 1)) + 1)) + 1)) + 1))).bind fun b1 => cond (decide (b1 < 0)) (RET (-1)) (cond (decide (0 ≤ x5_0)) (cond (decide (x5_0 < ((a0.length : Nat) : Int))) ((F33 k (((((((((((atI a0 x5_0).2).2).2).2).2).2).2).2).2).2) b1).bind fun b2 => cond (decide (b2 < 0)) (RET (-1)) (NX b2 (IntKind.i64.wrap (x5_0 + 1)))) none) none)) none) none)) none) none)) none) none)) none) none)) none) none)) none) none)) none) none)) none) none)) none) none)) none) none) (RET x1_0)
def F28_l0 (k : Nat) (a0 : List (den seg)) (a1 : Int) : Nat → Int → Int → Option (Int)
  | 0, _, _ => none
  | n + 1, x1_0, x5_0 => F28_l0_T k a0 a1 (fun x1_0 x5_0 => F28_l0 k a0 a1 n x1_0 x5_0) some x1_0 x5_0
theorem F28_l0_rd {β : Type} (k n : Nat) (a0 : List (den seg)) (a1 : Int) (x1_0 x5_0 : Int) (K : A × List (List Leaf) → Option β) :
    loopG (F28_E k) Try.f28 [1, 0, 1, 0] 0 (kontAt (F28_E k) [1, 0, 1, 0] (bodyOf Try.f28) 0 (endC (F28_E k) Try.f28 (F28_a a0 a1) K)) (n + 1) (F28_s0 a0 a1 x1_0 x5_0) =
    F28_l0_T k a0 a1 (fun x1_0 x5_0 => loopG (F28_E k) Try.f28 [1, 0, 1, 0] 0 (kontAt (F28_E k) [1, 0, 1, 0] (bodyOf Try.f28) 0 (endC (F28_E k) Try.f28 (F28_a a0 a1) K)) n (F28_s0 a0 a1 x1_0 x5_0)) (fun r => K (F28_r r)) x1_0 x5_0 := by kernel_rfl
theorem F28_l0_lp {β : Type} (k : Nat) (a0 : List (den seg)) (a1 : Int) (K : A × List (List Leaf) → Option β) (n : Nat) : ∀ (x1_0 x5_0 : Int), loopG (F28_E k) Try.f28 [1, 0, 1, 0] 0 (kontAt (F28_E k) [1, 0, 1, 0] (bodyOf Try.f28) 0 (endC (F28_E k) Try.f28 (F28_a a0 a1) K)) n (F28_s0 a0 a1 x1_0 x5_0) =
    (F28_l0 k a0 a1 n x1_0 x5_0).bind fun r => K (F28_r r) := by
  induction n with
  | zero => intros; rfl
  | succ n ih =>
    intros
    rw [F28_l0_rd, F28_l0]
    simp only [F28_l0_T, bind_cond, Option.bind_assoc, Option.bind_some, Option.bind_none, Option.bind_fun_some, ih]
def F28_T {β : Type} (k : Nat) (a0 : List (den seg)) (a1 : Int) (LP0 : Int → Int → Option β) : Option β := LP0 a1 0
def F28 (k : Nat) (a0 : List (den seg)) (a1 : Int) : Option (Int) := F28_T k a0 a1 (fun x1_0 x5_0 => F28_l0 k a0 a1 k x1_0 x5_0)
theorem F28_st {β : Type} (k : Nat) (a0 : List (den seg)) (a1 : Int) (K : A × List (List Leaf) → Option β) : evalF (F28_E k) Try.f28 (F28_a a0 a1) K =
    F28_T k a0 a1 (fun x1_0 x5_0 => loopG (F28_E k) Try.f28 [1, 0, 1, 0] 0 (kontAt (F28_E k) [1, 0, 1, 0] (bodyOf Try.f28) 0 (endC (F28_E k) Try.f28 (F28_a a0 a1) K)) k (F28_s0 a0 a1 x1_0 x5_0)) := by kernel_rfl
theorem F28_ev {β : Type} (k : Nat) (a0 : List (den seg)) (a1 : Int) (K : A × List (List Leaf) → Option β) : evalF (F28_E k) Try.f28 (F28_a a0 a1) K = (F28 k a0 a1).bind fun r => K (F28_r r) := by
  rw [F28_st, F28]
  simp only [F28_T, bind_cond, Option.bind_assoc, Option.bind_some, Option.bind_none, Option.bind_fun_some, F28_l0_lp]
theorem F28_tOk (k : Nat) : TabFn Try.prog (F28_t k) := .ent (F70_q k) F70_f (.ent (F33_q k) F33_f (.none))
theorem F28_con (k : Nat) (a0 : List (den seg)) (a1 : Int) : Contract Try.prog 28 (F28_a a0 a1) ⟨F28 k a0 a1, F28_r⟩ := con_of (envOk (F28_tOk k) _ _ _ _) mixed Try.func28 rfl rfl (F28_ev k a0 a1 some)
def F28_sh : List AK := [.one (.l (.sl .ro seg)), .one (.l (.int .i64))]
def F28_p (k : Nat) : List Arg → Option CR := cle F28_sh fun x => ⟨F28 k x.1 x.2.1, F28_r⟩
theorem F28_q (k : Nat) : ∀ xs cr, F28_p k xs = some cr → Contract Try.prog 28 xs cr := cle_ok fun x => F28_con k _ _
theorem F28_f : FnOk Try.prog 28 := .of (by kernel_rfl)
/-! 5: loop.example/netstack/laws.FnExactSegmentCut -/
def F5_t (k : Nat) : Tab := entT 22 (F22_p k) <| entT 23 (F23_p k) <| entT 13 (F13_p k) <| entT 11 (F11_p k) <| entT 24 (F24_p k) <| entT 25 (F25_p k) <| entT 26 (F26_p k) <| entT 27 (F27_p k) <| entT 28 (F28_p k) <| noTab
abbrev F5_E (k : Nat) : Env := env (F5_t k) noHint .own [] k
abbrev F5_a (a0_0 a0_1 a0_2 a0_3 a0_4 : Int) (a0_5 a0_6 a0_7 a0_8 : Bool) (a0_9 : List (den rng)) (a0_10 : List (den (.int .u8))) (a1 : Int) : List Arg := [.agg [.l (.v (.int .i64 a0_0)), .l (.v (.int .i64 a0_1)), .l (.v (.int .i64 a0_2)), .l (.v (.int .i64 a0_3)), .l (.v (.int .i64 a0_4)), .l (.v (.bool a0_5)), .l (.v (.bool a0_6)), .l (.v (.bool a0_7)), .l (.v (.bool a0_8)), .l (.s .ro rng a0_9), .l (.s .ro (.int .u8) a0_10)], .one (.l (.v (.int .i64 a1)))]
def F5_r (r : Bool) : A × List (List Leaf) := (.one (.v (.bool r)), [])
def F5_T {β : Type} (k : Nat) (a0_0 a0_1 a0_2 a0_3 a0_4 : Int) (a0_5 a0_6 a0_7 a0_8 : Bool) (a0_9 : List (den rng)) (a0_10 : List (den (.int .u8))) (a1 : Int) (RET : Bool → Option β) : Option β := (F22 k a0_0 a0_1 a0_2 a0_3 a0_4 a0_5 a0_6 a0_7 a0_8 a0_9 a0_10 1048576).bind fun b1 => cond (decide (b1 < 0)) (RET true) ((F23 k a0_0 a0_1 a0_2 a0_3 a0_4 a0_5 a0_6 a0_7 a0_8 a0_9 a0_10).bind fun b2 => (F13 k b2.1 b2.2.1 b2.2.2.1 b2.2.2.2.1 b2.2.2.2.2.1 b2.2.2.2.2.2.1 b2.2.2.2.2.2.2.1 b2.2.2.2.2.2.2.2.1 b2.2.2.2.2.2.2.2.2.1 b2.2.2.2.2.2.2.2.2.2.1 b2.2.2.2.2.2.2.2.2.2.2 a1).bind fun b3 => (F23 k a0_0 a0_1 a0_2 a0_3 a0_4 a0_5 a0_6 a0_7 a0_8 a0_9 a0_10).bind fun b4 => (F11 k b4.1 b4.2.1 b4.2.2.1 b4.2.2.2.1 b4.2.2.2.2.1 b4.2.2.2.2.2.1 b4.2.2.2.2.2.2.1 b4.2.2.2.2.2.2.2.1 b4.2.2.2.2.2.2.2.2.1 b4.2.2.2.2.2.2.2.2.2.1 b4.2.2.2.2.2.2.2.2.2.2 a1).bind fun b5 => (F24 k b5 b3).bind fun b6 => cond (!b6) (RET false) ((F23 k a0_0 a0_1 a0_2 a0_3 a0_4 a0_5 a0_6 a0_7 a0_8 a0_9 a0_10).bind fun b7 => (F25 k b4.1 b4.2.1 b4.2.2.1 b4.2.2.2.1 b4.2.2.2.2.1 b4.2.2.2.2.2.1 b4.2.2.2.2.2.2.1 b4.2.2.2.2.2.2.2.1 b4.2.2.2.2.2.2.2.2.1 b4.2.2.2.2.2.2.2.2.2.1 b4.2.2.2.2.2.2.2.2.2.2 b7.1 b7.2.1 b7.2.2.1 b7.2.2.2.1 b7.2.2.2.2.1 b7.2.2.2.2.2.1 b7.2.2.2.2.2.2.1 b7.2.2.2.2.2.2.2.1 b7.2.2.2.2.2.2.2.2.1 b7.2.2.2.2.2.2.2.2.2.1 b7.2.2.2.2.2.2.2.2.2.2).bind fun b8 => cond (!b8) (RET false) ((F26 k b4.1 b4.2.1 b4.2.2.1 b4.2.2.2.1 b4.2.2.2.2.1 b4.2.2.2.2.2.1 b4.2.2.2.2.2.2.1 b4.2.2.2.2.2.2.2.1 b4.2.2.2.2.2.2.2.2.1 b4.2.2.2.2.2.2.2.2.2.1 b4.2.2.2.2.2.2.2.2.2.2 1).bind fun b9 => cond (decide (b9.1 < 0)) (RET false) ((F24 k b5 b3).bind fun b10 => cond (!b10) (RET false) ((F27 k b5 1).bind fun b11 => (F28 k b11.2 1).bind fun b12 => cond (decide (b12 < 0)) (RET false) (cond (b12 != b11.1) (RET false) ((F23 k a0_0 a0_1 a0_2 a0_3 a0_4 a0_5 a0_6 a0_7 a0_8 a0_9 a0_10).bind fun b13 => (F11 k b13.1 b13.2.1 b13.2.2.1 b13.2.2.2.1 b13.2.2.2.2.1 b13.2.2.2.2.2.1 b13.2.2.2.2.2.2.1 b13.2.2.2.2.2.2.2.1 b13.2.2.2.2.2.2.2.2.1 b13.2.2.2.2.2.2.2.2.2.1 b13.2.2.2.2.2.2.2.2.2.2 a1).bind fun b14 => (F24 k b14 b3).bind fun b15 => cond (!b15) (RET false) ((F28 k b11.2 1).bind fun b16 => cond (decide (b16 < 0)) (RET false) (cond (b16 != b11.1) (RET false) (RET true))))))))))
def F5 (k : Nat) (a0_0 a0_1 a0_2 a0_3 a0_4 : Int) (a0_5 a0_6 a0_7 a0_8 : Bool) (a0_9 : List (den rng)) (a0_10 : List (den (.int .u8))) (a1 : Int) : Option (Bool) := F5_T k a0_0 a0_1 a0_2 a0_3 a0_4 a0_5 a0_6 a0_7 a0_8 a0_9 a0_10 a1 some
theorem F5_st {β : Type} (k : Nat) (a0_0 a0_1 a0_2 a0_3 a0_4 : Int) (a0_5 a0_6 a0_7 a0_8 : Bool) (a0_9 : List (den rng)) (a0_10 : List (den (.int .u8))) (a1 : Int) (K : A × List (List Leaf) → Option β) : evalF (F5_E k) Try.f5 (F5_a a0_0 a0_1 a0_2 a0_3 a0_4 a0_5 a0_6 a0_7 a0_8 a0_9 a0_10 a1) K =
    F5_T k a0_0 a0_1 a0_2 a0_3 a0_4 a0_5 a0_6 a0_7 a0_8 a0_9 a0_10 a1 (fun r => K (F5_r r)) := by kernel_rfl
theorem F5_ev {β : Type} (k : Nat) (a0_0 a0_1 a0_2 a0_3 a0_4 : Int) (a0_5 a0_6 a0_7 a0_8 : Bool) (a0_9 : List (den rng)) (a0_10 : List (den (.int .u8))) (a1 : Int) (K : A × List (List Leaf) → Option β) : evalF (F5_E k) Try.f5 (F5_a a0_0 a0_1 a0_2 a0_3 a0_4 a0_5 a0_6 a0_7 a0_8 a0_9 a0_10 a1) K = (F5 k a0_0 a0_1 a0_2 a0_3 a0_4 a0_5 a0_6 a0_7 a0_8 a0_9 a0_10 a1).bind fun r => K (F5_r r) := by
  rw [F5_st, F5]
  simp only [F5_T, bind_cond, Option.bind_assoc, Option.bind_some, Option.bind_none, Option.bind_fun_some]
theorem F5_tOk (k : Nat) : TabFn Try.prog (F5_t k) := .ent (F22_q k) F22_f (.ent (F23_q k) F23_f (.ent (F13_q k) F13_f (.ent (F11_q k) F11_f (.ent (F24_q k) F24_f (.ent (F25_q k) F25_f (.ent (F26_q k) F26_f (.ent (F27_q k) F27_f (.ent (F28_q k) F28_f (.none)))))))))
theorem F5_con (k : Nat) (a0_0 a0_1 a0_2 a0_3 a0_4 : Int) (a0_5 a0_6 a0_7 a0_8 : Bool) (a0_9 : List (den rng)) (a0_10 : List (den (.int .u8))) (a1 : Int) : Contract Try.prog 5 (F5_a a0_0 a0_1 a0_2 a0_3 a0_4 a0_5 a0_6 a0_7 a0_8 a0_9 a0_10 a1) ⟨F5 k a0_0 a0_1 a0_2 a0_3 a0_4 a0_5 a0_6 a0_7 a0_8 a0_9 a0_10 a1, F5_r⟩ := con_of (envOk (F5_tOk k) _ _ _ _) mixed Try.func5 rfl rfl (F5_ev k a0_0 a0_1 a0_2 a0_3 a0_4 a0_5 a0_6 a0_7 a0_8 a0_9 a0_10 a1 some)
def F5_sh : List AK := [.agg [.l (.int .i64), .l (.int .i64), .l (.int .i64), .l (.int .i64), .l (.int .i64), .l (.bool), .l (.bool), .l (.bool), .l (.bool), .l (.sl .ro rng), .l (.sl .ro (.int .u8))], .one (.l (.int .i64))]
def F5_p (k : Nat) : List Arg → Option CR := cle F5_sh fun x => ⟨F5 k x.1.1 x.1.2.1 x.1.2.2.1 x.1.2.2.2.1 x.1.2.2.2.2.1 x.1.2.2.2.2.2.1 x.1.2.2.2.2.2.2.1 x.1.2.2.2.2.2.2.2.1 x.1.2.2.2.2.2.2.2.2.1 x.1.2.2.2.2.2.2.2.2.2.1 x.1.2.2.2.2.2.2.2.2.2.2.1 x.2.1, F5_r⟩
theorem F5_q (k : Nat) : ∀ xs cr, F5_p k xs = some cr → Contract Try.prog 5 xs cr := cle_ok fun x => F5_con k _ _ _ _ _ _ _ _ _ _ _ _
theorem F5_f : FnOk Try.prog 5 := .of (by kernel_rfl)
end Go.Proofs.Ytnagpaikjikhaaa.Gn
end
