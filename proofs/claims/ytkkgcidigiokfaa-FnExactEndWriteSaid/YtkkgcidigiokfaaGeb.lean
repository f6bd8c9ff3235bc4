/-
  The functions that the law reaches, as plain Lean functions, and their contracts. (A part of the proofs of this seat.)
-/
import Derived.Test.YtkkgcidigiokfaaGea
import Derived.KernelRfl

section
set_option linter.unusedVariables false
set_option linter.unusedSimpArgs false
/-
  The functions that the laws over ends reach, as plain functions (printed by rfgen.py).
-/
namespace Go.Proofs.Ytkkgcidigiokfaa.Gn
open Go.Rf
/-! 85: (loop.example/netstack/impl.End).copy -/
def F85_t (k : Nat) : Tab := entT 147 (F147_p k) <| entT 148 (F148_p k) <| noTab
abbrev F85_E (k : Nat) : Env := env (F85_t k) noHint .own [] k
abbrev F85_a (a0_0 a0_1 a0_2 a0_3 a0_4 a0_5 a0_6 : Int) (a0_7 : List (den (.int .u8))) (a0_8 a0_9 : Int) (a0_10 : List (den rng)) (a0_11 a0_12 : Int) (a0_13 : List (den (.int .u8))) (a0_14 : List (den erl)) (a0_15 a0_16 a0_17 : Bool) (a0_18 a0_19 a0_20 a0_21 a0_22 a0_23 : Int) : List Arg := [.agg [.l (.v (.int .i64 a0_0)), .l (.v (.int .i64 a0_1)), .l (.v (.int .i64 a0_2)), .l (.v (.int .i64 a0_3)), .l (.v (.int .i64 a0_4)), .l (.v (.int .i64 a0_5)), .l (.v (.int .i64 a0_6)), .l (.s .ro (.int .u8) a0_7), .l (.v (.int .i64 a0_8)), .l (.v (.int .i64 a0_9)), .l (.s .ro rng a0_10), .l (.v (.int .i64 a0_11)), .l (.v (.int .i64 a0_12)), .l (.s .ro (.int .u8) a0_13), .l (.s .ro erl a0_14), .l (.v (.bool a0_15)), .l (.v (.bool a0_16)), .l (.v (.bool a0_17)), .l (.v (.int .i64 a0_18)), .l (.v (.int .i64 a0_19)), .l (.v (.int .i64 a0_20)), .l (.v (.int .i64 a0_21)), .l (.v (.int .i64 a0_22)), .l (.v (.int .i64 a0_23))]]
def F85_r (r : Int × Int × Int × Int × Int × Int × Int × List (den (.int .u8)) × Int × Int × List (den rng) × Int × Int × List (den (.int .u8)) × List (den erl) × Bool × Bool × Bool × Int × Int × Int × Int × Int × Int) : A × List (List Leaf) := (.agg [.v (.int .i64 r.1), .v (.int .i64 r.2.1), .v (.int .i64 r.2.2.1), .v (.int .i64 r.2.2.2.1), .v (.int .i64 r.2.2.2.2.1), .v (.int .i64 r.2.2.2.2.2.1), .v (.int .i64 r.2.2.2.2.2.2.1), .s .own (.int .u8) r.2.2.2.2.2.2.2.1, .v (.int .i64 r.2.2.2.2.2.2.2.2.1), .v (.int .i64 r.2.2.2.2.2.2.2.2.2.1), .s .own rng r.2.2.2.2.2.2.2.2.2.2.1, .v (.int .i64 r.2.2.2.2.2.2.2.2.2.2.2.1), .v (.int .i64 r.2.2.2.2.2.2.2.2.2.2.2.2.1), .s .own (.int .u8) r.2.2.2.2.2.2.2.2.2.2.2.2.2.1, .s .own erl r.2.2.2.2.2.2.2.2.2.2.2.2.2.2.1, .v (.bool r.2.2.2.2.2.2.2.2.2.2.2.2.2.2.2.1), .v (.bool r.2.2.2.2.2.2.2.2.2.2.2.2.2.2.2.2.1), .v (.bool r.2.2.2.2.2.2.2.2.2.2.2.2.2.2.2.2.2.1), .v (.int .i64 r.2.2.2.2.2.2.2.2.2.2.2.2.2.2.2.2.2.2.1), .v (.int .i64 r.2.2.2.2.2.2.2.2.2.2.2.2.2.2.2.2.2.2.2.1), .v (.int .i64 r.2.2.2.2.2.2.2.2.2.2.2.2.2.2.2.2.2.2.2.2.1), .v (.int .i64 r.2.2.2.2.2.2.2.2.2.2.2.2.2.2.2.2.2.2.2.2.2.1), .v (.int .i64 r.2.2.2.2.2.2.2.2.2.2.2.2.2.2.2.2.2.2.2.2.2.2.1), .v (.int .i64 r.2.2.2.2.2.2.2.2.2.2.2.2.2.2.2.2.2.2.2.2.2.2.2)], [])
def F85_T {β : Type} (k : Nat) (a0_0 a0_1 a0_2 a0_3 a0_4 a0_5 a0_6 : Int) (a0_7 : List (den (.int .u8))) (a0_8 a0_9 : Int) (a0_10 : List (den rng)) (a0_11 a0_12 : Int) (a0_13 : List (den (.int .u8))) (a0_14 : List (den erl)) (a0_15 a0_16 a0_17 : Bool) (a0_18 a0_19 a0_20 a0_21 a0_22 a0_23 : Int) (RET : (Int × Int × Int × Int × Int × Int × Int × List (den (.int .u8)) × Int × Int × List (den rng) × Int × Int × List (den (.int .u8)) × List (den erl) × Bool × Bool × Bool × Int × Int × Int × Int × Int × Int) → Option β) : Option β := (F147 k a0_6 a0_7 a0_8 a0_9 a0_10).bind fun b1 => (F148 k a0_11 a0_12 a0_13 a0_14).bind fun b2 => RET (a0_0, a0_1, a0_2, a0_3, a0_4, a0_5, b1.1, b1.2.1, b1.2.2.1, b1.2.2.2.1, b1.2.2.2.2, b2.1, b2.2.1, b2.2.2.1, b2.2.2.2, a0_15, a0_16, a0_17, a0_18, a0_19, a0_20, a0_21, a0_22, a0_23)
def F85 (k : Nat) (a0_0 a0_1 a0_2 a0_3 a0_4 a0_5 a0_6 : Int) (a0_7 : List (den (.int .u8))) (a0_8 a0_9 : Int) (a0_10 : List (den rng)) (a0_11 a0_12 : Int) (a0_13 : List (den (.int .u8))) (a0_14 : List (den erl)) (a0_15 a0_16 a0_17 : Bool) (a0_18 a0_19 a0_20 a0_21 a0_22 a0_23 : Int) : Option (Int × Int × Int × Int × Int × Int × Int × List (den (.int .u8)) × Int × Int × List (den rng) × Int × Int × List (den (.int .u8)) × List (den erl) × Bool × Bool × Bool × Int × Int × Int × Int × Int × Int) := F85_T k a0_0 a0_1 a0_2 a0_3 a0_4 a0_5 a0_6 a0_7 a0_8 a0_9 a0_10 a0_11 a0_12 a0_13 a0_14 a0_15 a0_16 a0_17 a0_18 a0_19 a0_20 a0_21 a0_22 a0_23 some
theorem F85_st {β : Type} (k : Nat) (a0_0 a0_1 a0_2 a0_3 a0_4 a0_5 a0_6 : Int) (a0_7 : List (den (.int .u8))) (a0_8 a0_9 : Int) (a0_10 : List (den rng)) (a0_11 a0_12 : Int) (a0_13 : List (den (.int .u8))) (a0_14 : List (den erl)) (a0_15 a0_16 a0_17 : Bool) (a0_18 a0_19 a0_20 a0_21 a0_22 a0_23 : Int) (K : A × List (List Leaf) → Option β) : evalF (F85_E k) Try.f85 (F85_a a0_0 a0_1 a0_2 a0_3 a0_4 a0_5 a0_6 a0_7 a0_8 a0_9 a0_10 a0_11 a0_12 a0_13 a0_14 a0_15 a0_16 a0_17 a0_18 a0_19 a0_20 a0_21 a0_22 a0_23) K =
    F85_T k a0_0 a0_1 a0_2 a0_3 a0_4 a0_5 a0_6 a0_7 a0_8 a0_9 a0_10 a0_11 a0_12 a0_13 a0_14 a0_15 a0_16 a0_17 a0_18 a0_19 a0_20 a0_21 a0_22 a0_23 (fun r => K (F85_r r)) := by kernel_rfl
theorem F85_ev {β : Type} (k : Nat) (a0_0 a0_1 a0_2 a0_3 a0_4 a0_5 a0_6 : Int) (a0_7 : List (den (.int .u8))) (a0_8 a0_9 : Int) (a0_10 : List (den rng)) (a0_11 a0_12 : Int) (a0_13 : List (den (.int .u8))) (a0_14 : List (den erl)) (a0_15 a0_16 a0_17 : Bool) (a0_18 a0_19 a0_20 a0_21 a0_22 a0_23 : Int) (K : A × List (List Leaf) → Option β) : evalF (F85_E k) Try.f85 (F85_a a0_0 a0_1 a0_2 a0_3 a0_4 a0_5 a0_6 a0_7 a0_8 a0_9 a0_10 a0_11 a0_12 a0_13 a0_14 a0_15 a0_16 a0_17 a0_18 a0_19 a0_20 a0_21 a0_22 a0_23) K = (F85 k a0_0 a0_1 a0_2 a0_3 a0_4 a0_5 a0_6 a0_7 a0_8 a0_9 a0_10 a0_11 a0_12 a0_13 a0_14 a0_15 a0_16 a0_17 a0_18 a0_19 a0_20 a0_21 a0_22 a0_23).bind fun r => K (F85_r r) := by
  rw [F85_st, F85]
  simp only [F85_T, bind_cond, Option.bind_assoc, Option.bind_some, Option.bind_none, Option.bind_fun_some]
theorem F85_tOk (k : Nat) : TabFn Try.prog (F85_t k) := .ent (F147_q k) F147_f (.ent (F148_q k) F148_f (.none))
theorem F85_con (k : Nat) (a0_0 a0_1 a0_2 a0_3 a0_4 a0_5 a0_6 : Int) (a0_7 : List (den (.int .u8))) (a0_8 a0_9 : Int) (a0_10 : List (den rng)) (a0_11 a0_12 : Int) (a0_13 : List (den (.int .u8))) (a0_14 : List (den erl)) (a0_15 a0_16 a0_17 : Bool) (a0_18 a0_19 a0_20 a0_21 a0_22 a0_23 : Int) : Contract Try.prog 85 (F85_a a0_0 a0_1 a0_2 a0_3 a0_4 a0_5 a0_6 a0_7 a0_8 a0_9 a0_10 a0_11 a0_12 a0_13 a0_14 a0_15 a0_16 a0_17 a0_18 a0_19 a0_20 a0_21 a0_22 a0_23) ⟨F85 k a0_0 a0_1 a0_2 a0_3 a0_4 a0_5 a0_6 a0_7 a0_8 a0_9 a0_10 a0_11 a0_12 a0_13 a0_14 a0_15 a0_16 a0_17 a0_18 a0_19 a0_20 a0_21 a0_22 a0_23, F85_r⟩ := con_of (envOk (F85_tOk k) _ _ _ _) mixed Try.func85 rfl rfl (F85_ev k a0_0 a0_1 a0_2 a0_3 a0_4 a0_5 a0_6 a0_7 a0_8 a0_9 a0_10 a0_11 a0_12 a0_13 a0_14 a0_15 a0_16 a0_17 a0_18 a0_19 a0_20 a0_21 a0_22 a0_23 some)
def F85_sh : List AK := [.agg [.l (.int .i64), .l (.int .i64), .l (.int .i64), .l (.int .i64), .l (.int .i64), .l (.int .i64), .l (.int .i64), .l (.sl .ro (.int .u8)), .l (.int .i64), .l (.int .i64), .l (.sl .ro rng), .l (.int .i64), .l (.int .i64), .l (.sl .ro (.int .u8)), .l (.sl .ro erl), .l (.bool), .l (.bool), .l (.bool), .l (.int .i64), .l (.int .i64), .l (.int .i64), .l (.int .i64), .l (.int .i64), .l (.int .i64)]]
def F85_p (k : Nat) : List Arg → Option CR := cle F85_sh fun x => ⟨F85 k x.1.1 x.1.2.1 x.1.2.2.1 x.1.2.2.2.1 x.1.2.2.2.2.1 x.1.2.2.2.2.2.1 x.1.2.2.2.2.2.2.1 x.1.2.2.2.2.2.2.2.1 x.1.2.2.2.2.2.2.2.2.1 x.1.2.2.2.2.2.2.2.2.2.1 x.1.2.2.2.2.2.2.2.2.2.2.1 x.1.2.2.2.2.2.2.2.2.2.2.2.1 x.1.2.2.2.2.2.2.2.2.2.2.2.2.1 x.1.2.2.2.2.2.2.2.2.2.2.2.2.2.1 x.1.2.2.2.2.2.2.2.2.2.2.2.2.2.2.1 x.1.2.2.2.2.2.2.2.2.2.2.2.2.2.2.2.1 x.1.2.2.2.2.2.2.2.2.2.2.2.2.2.2.2.2.1 x.1.2.2.2.2.2.2.2.2.2.2.2.2.2.2.2.2.2.1 x.1.2.2.2.2.2.2.2.2.2.2.2.2.2.2.2.2.2.2.1 x.1.2.2.2.2.2.2.2.2.2.2.2.2.2.2.2.2.2.2.2.1 x.1.2.2.2.2.2.2.2.2.2.2.2.2.2.2.2.2.2.2.2.2.1 x.1.2.2.2.2.2.2.2.2.2.2.2.2.2.2.2.2.2.2.2.2.2.1 x.1.2.2.2.2.2.2.2.2.2.2.2.2.2.2.2.2.2.2.2.2.2.2.1 x.1.2.2.2.2.2.2.2.2.2.2.2.2.2.2.2.2.2.2.2.2.2.2.2.1, F85_r⟩
theorem F85_q (k : Nat) : ∀ xs cr, F85_p k xs = some cr → Contract Try.prog 85 xs cr := cle_ok fun x => F85_con k _ _ _ _ _ _ _ _ _ _ _ _ _ _ _ _ _ _ _ _ _ _ _ _
theorem F85_f : FnOk Try.prog 85 := .of (by kernel_rfl)
/-! 67: loop.example/netstack/impl.SeqOf -/
abbrev F67_E (k : Nat) : Env := env noTab noHint .own [] k
abbrev F67_a (a0 : Int) : List Arg := [.one (.l (.v (.int .i64 a0)))]
def F67_r (r : Int) : A × List (List Leaf) := (.one (.v (.int .i64 r)), [])
def F67 (k : Nat) (a0 : Int) : Option (Int) := some ((IntKind.i64.wrap ((a0.tmod 65536) + 65536)).tmod 65536)
theorem F67_st {β : Type} (k : Nat) (a0 : Int) (K : A × List (List Leaf) → Option β) : evalF (F67_E k) Try.f67 (F67_a a0) K =
    K (.one (.v (.int .i64 ((IntKind.i64.wrap ((a0.tmod 65536) + 65536)).tmod 65536))), []) := by kernel_rfl
theorem F67_ev {β : Type} (k : Nat) (a0 : Int) (K : A × List (List Leaf) → Option β) : evalF (F67_E k) Try.f67 (F67_a a0) K = (F67 k a0).bind fun r => K (F67_r r) := by
  rw [F67_st, F67]
  simp only [F67_r, bind_cond, Option.bind_assoc, Option.bind_some, Option.bind_none, Option.bind_fun_some]
theorem F67_con (k : Nat) (a0 : Int) : Contract Try.prog 67 (F67_a a0) ⟨F67 k a0, F67_r⟩ := con_of (envOk .none _ _ _ _) mixed Try.func67 rfl rfl (F67_ev k a0 some)
def F67_sh : List AK := [.one (.l (.int .i64))]
def F67_p (k : Nat) : List Arg → Option CR := cle F67_sh fun x => ⟨F67 k x.1, F67_r⟩
theorem F67_q (k : Nat) : ∀ xs cr, F67_p k xs = some cr → Contract Try.prog 67 xs cr := cle_ok fun x => F67_con k _
theorem F67_f : FnOk Try.prog 67 := .of (by kernel_rfl)
/-! 171: (loop.example/netstack/impl.End).waits -/
abbrev F171_E (k : Nat) : Env := env noTab noHint .own [] k
abbrev F171_a (a0_0 a0_1 a0_2 a0_3 a0_4 a0_5 a0_6 : Int) (a0_7 : List (den (.int .u8))) (a0_8 a0_9 : Int) (a0_10 : List (den rng)) (a0_11 a0_12 : Int) (a0_13 : List (den (.int .u8))) (a0_14 : List (den erl)) (a0_15 a0_16 a0_17 : Bool) (a0_18 a0_19 a0_20 a0_21 a0_22 a0_23 : Int) : List Arg := [.agg [.l (.v (.int .i64 a0_0)), .l (.v (.int .i64 a0_1)), .l (.v (.int .i64 a0_2)), .l (.v (.int .i64 a0_3)), .l (.v (.int .i64 a0_4)), .l (.v (.int .i64 a0_5)), .l (.v (.int .i64 a0_6)), .l (.s .ro (.int .u8) a0_7), .l (.v (.int .i64 a0_8)), .l (.v (.int .i64 a0_9)), .l (.s .ro rng a0_10), .l (.v (.int .i64 a0_11)), .l (.v (.int .i64 a0_12)), .l (.s .ro (.int .u8) a0_13), .l (.s .ro erl a0_14), .l (.v (.bool a0_15)), .l (.v (.bool a0_16)), .l (.v (.bool a0_17)), .l (.v (.int .i64 a0_18)), .l (.v (.int .i64 a0_19)), .l (.v (.int .i64 a0_20)), .l (.v (.int .i64 a0_21)), .l (.v (.int .i64 a0_22)), .l (.v (.int .i64 a0_23))]]
def F171_r (r : Int) : A × List (List Leaf) := (.one (.v (.int .i64 r)), [])
def F171 (k : Nat) (a0_0 a0_1 a0_2 a0_3 a0_4 a0_5 a0_6 : Int) (a0_7 : List (den (.int .u8))) (a0_8 a0_9 : Int) (a0_10 : List (den rng)) (a0_11 a0_12 : Int) (a0_13 : List (den (.int .u8))) (a0_14 : List (den erl)) (a0_15 a0_16 a0_17 : Bool) (a0_18 a0_19 a0_20 a0_21 a0_22 a0_23 : Int) : Option (Int) := cond (a0_18 == a0_11) (some (IntKind.i64.wrap (a0_11 + 1))) (some a0_11)
theorem F171_st {β : Type} (k : Nat) (a0_0 a0_1 a0_2 a0_3 a0_4 a0_5 a0_6 : Int) (a0_7 : List (den (.int .u8))) (a0_8 a0_9 : Int) (a0_10 : List (den rng)) (a0_11 a0_12 : Int) (a0_13 : List (den (.int .u8))) (a0_14 : List (den erl)) (a0_15 a0_16 a0_17 : Bool) (a0_18 a0_19 a0_20 a0_21 a0_22 a0_23 : Int) (K : A × List (List Leaf) → Option β) : evalF (F171_E k) Try.f171 (F171_a a0_0 a0_1 a0_2 a0_3 a0_4 a0_5 a0_6 a0_7 a0_8 a0_9 a0_10 a0_11 a0_12 a0_13 a0_14 a0_15 a0_16 a0_17 a0_18 a0_19 a0_20 a0_21 a0_22 a0_23) K =
    cond (a0_18 == a0_11) (K (.one (.v (.int .i64 (IntKind.i64.wrap (a0_11 + 1)))), [])) (K (.one (.v (.int .i64 a0_11)), [])) := by kernel_rfl
theorem F171_ev {β : Type} (k : Nat) (a0_0 a0_1 a0_2 a0_3 a0_4 a0_5 a0_6 : Int) (a0_7 : List (den (.int .u8))) (a0_8 a0_9 : Int) (a0_10 : List (den rng)) (a0_11 a0_12 : Int) (a0_13 : List (den (.int .u8))) (a0_14 : List (den erl)) (a0_15 a0_16 a0_17 : Bool) (a0_18 a0_19 a0_20 a0_21 a0_22 a0_23 : Int) (K : A × List (List Leaf) → Option β) : evalF (F171_E k) Try.f171 (F171_a a0_0 a0_1 a0_2 a0_3 a0_4 a0_5 a0_6 a0_7 a0_8 a0_9 a0_10 a0_11 a0_12 a0_13 a0_14 a0_15 a0_16 a0_17 a0_18 a0_19 a0_20 a0_21 a0_22 a0_23) K = (F171 k a0_0 a0_1 a0_2 a0_3 a0_4 a0_5 a0_6 a0_7 a0_8 a0_9 a0_10 a0_11 a0_12 a0_13 a0_14 a0_15 a0_16 a0_17 a0_18 a0_19 a0_20 a0_21 a0_22 a0_23).bind fun r => K (F171_r r) := by
  rw [F171_st, F171]
  simp only [F171_r, bind_cond, Option.bind_assoc, Option.bind_some, Option.bind_none, Option.bind_fun_some]
theorem F171_con (k : Nat) (a0_0 a0_1 a0_2 a0_3 a0_4 a0_5 a0_6 : Int) (a0_7 : List (den (.int .u8))) (a0_8 a0_9 : Int) (a0_10 : List (den rng)) (a0_11 a0_12 : Int) (a0_13 : List (den (.int .u8))) (a0_14 : List (den erl)) (a0_15 a0_16 a0_17 : Bool) (a0_18 a0_19 a0_20 a0_21 a0_22 a0_23 : Int) : Contract Try.prog 171 (F171_a a0_0 a0_1 a0_2 a0_3 a0_4 a0_5 a0_6 a0_7 a0_8 a0_9 a0_10 a0_11 a0_12 a0_13 a0_14 a0_15 a0_16 a0_17 a0_18 a0_19 a0_20 a0_21 a0_22 a0_23) ⟨F171 k a0_0 a0_1 a0_2 a0_3 a0_4 a0_5 a0_6 a0_7 a0_8 a0_9 a0_10 a0_11 a0_12 a0_13 a0_14 a0_15 a0_16 a0_17 a0_18 a0_19 a0_20 a0_21 a0_22 a0_23, F171_r⟩ := con_of (envOk .none _ _ _ _) mixed Try.func171 rfl rfl (F171_ev k a0_0 a0_1 a0_2 a0_3 a0_4 a0_5 a0_6 a0_7 a0_8 a0_9 a0_10 a0_11 a0_12 a0_13 a0_14 a0_15 a0_16 a0_17 a0_18 a0_19 a0_20 a0_21 a0_22 a0_23 some)
def F171_sh : List AK := [.agg [.l (.int .i64), .l (.int .i64), .l (.int .i64), .l (.int .i64), .l (.int .i64), .l (.int .i64), .l (.int .i64), .l (.sl .ro (.int .u8)), .l (.int .i64), .l (.int .i64), .l (.sl .ro rng), .l (.int .i64), .l (.int .i64), .l (.sl .ro (.int .u8)), .l (.sl .ro erl), .l (.bool), .l (.bool), .l (.bool), .l (.int .i64), .l (.int .i64), .l (.int .i64), .l (.int .i64), .l (.int .i64), .l (.int .i64)]]
def F171_p (k : Nat) : List Arg → Option CR := cle F171_sh fun x => ⟨F171 k x.1.1 x.1.2.1 x.1.2.2.1 x.1.2.2.2.1 x.1.2.2.2.2.1 x.1.2.2.2.2.2.1 x.1.2.2.2.2.2.2.1 x.1.2.2.2.2.2.2.2.1 x.1.2.2.2.2.2.2.2.2.1 x.1.2.2.2.2.2.2.2.2.2.1 x.1.2.2.2.2.2.2.2.2.2.2.1 x.1.2.2.2.2.2.2.2.2.2.2.2.1 x.1.2.2.2.2.2.2.2.2.2.2.2.2.1 x.1.2.2.2.2.2.2.2.2.2.2.2.2.2.1 x.1.2.2.2.2.2.2.2.2.2.2.2.2.2.2.1 x.1.2.2.2.2.2.2.2.2.2.2.2.2.2.2.2.1 x.1.2.2.2.2.2.2.2.2.2.2.2.2.2.2.2.2.1 x.1.2.2.2.2.2.2.2.2.2.2.2.2.2.2.2.2.2.1 x.1.2.2.2.2.2.2.2.2.2.2.2.2.2.2.2.2.2.2.1 x.1.2.2.2.2.2.2.2.2.2.2.2.2.2.2.2.2.2.2.2.1 x.1.2.2.2.2.2.2.2.2.2.2.2.2.2.2.2.2.2.2.2.2.1 x.1.2.2.2.2.2.2.2.2.2.2.2.2.2.2.2.2.2.2.2.2.2.1 x.1.2.2.2.2.2.2.2.2.2.2.2.2.2.2.2.2.2.2.2.2.2.2.1 x.1.2.2.2.2.2.2.2.2.2.2.2.2.2.2.2.2.2.2.2.2.2.2.2.1, F171_r⟩
theorem F171_q (k : Nat) : ∀ xs cr, F171_p k xs = some cr → Contract Try.prog 171 xs cr := cle_ok fun x => F171_con k _ _ _ _ _ _ _ _ _ _ _ _ _ _ _ _ _ _ _ _ _ _ _ _
theorem F171_f : FnOk Try.prog 171 := .of (by kernel_rfl)
/-! 172: (loop.example/netstack/impl.Ear).ranges -/
def F172_h : Nat → Hint
  | 0 => ⟨[(3, .own .own rng []), (8, .plain), (9, .plain), (10, .plain)], []⟩
  | _ => ⟨[], []⟩
def F172_t (k : Nat) : Tab := entT 136 (F136_p k) <| noTab
abbrev F172_E (k : Nat) : Env := env (F172_t k) F172_h .own [] k
abbrev F172_a (a0_0 a0_1 : Int) (a0_2 : List (den (.int .u8))) (a0_3 : List (den erl)) : List Arg := [.agg [.l (.v (.int .i64 a0_0)), .l (.v (.int .i64 a0_1)), .l (.s .ro (.int .u8) a0_2), .l (.s .ro erl a0_3)]]
def F172_r (r : List (den rng)) : A × List (List Leaf) := (.one (.s .own rng r), [])
def F172_s0 (a0_0 a0_1 : Int) (a0_2 : List (den (.int .u8))) (a0_3 : List (den erl)) (x10_0 : Int) (m3900_0 : List (den rng)) : St := ⟨dz 3 ((.one (.a (.cell 3900) 0 0 none)) :: dz 4 ((.one (.s .ro erl a0_3)) :: (.one (.v (.int .i64 ((a0_3.length : Nat) : Int)))) :: (.one (.v (.int .i64 x10_0))) :: dz 43 [])), [(3900, ⟨.s .own rng m3900_0, 0, 0⟩)]⟩
def F172_l0_j1 {β : Type} (k : Nat) (a0_0 a0_1 : Int) (a0_2 : List (den (.int .u8))) (a0_3 : List (den erl)) (NX : Int → List (den rng) → Option β) (RET : List (den rng) → Option β) (m3900_0 : List (den rng)) (x10_0 : Int) : Option β := cond (decide ((m3900_0.length + [((atI a0_3 x10_0).1, IntKind.i64.wrap (((atI a0_3 x10_0).1) + 1))].length) * 16 ≤ 140737488355328)) (NX (IntKind.i64.wrap (x10_0 + 1)) (m3900_0 ++ [((atI a0_3 x10_0).1, IntKind.i64.wrap (((atI a0_3 x10_0).1) + 1))])) none
def F172_l0_T {β : Type} (k : Nat) (a0_0 a0_1 : Int) (a0_2 : List (den (.int .u8))) (a0_3 : List (den erl)) (NX : Int → List (den rng) → Option β) (RET : List (den rng) → Option β) (x10_0 : Int) (m3900_0 : List (den rng)) : Option β := cond (decide (x10_0 < ((a0_3.length : Nat) : Int))) (cond (decide (0 ≤ x10_0)) (cond (decide (x10_0 < ((a0_3.length : Nat) : Int))) (cond (decide (((m3900_0.length : Nat) : Int) > 0)) (cond (decide (0 ≤ (IntKind.i64.wrap (((m3900_0.length : Nat) : Int) - 1)))) (cond (decide ((IntKind.i64.wrap (((m3900_0.length : Nat) : Int) - 1)) < ((m3900_0.length : Nat) : Int))) (cond (((atI m3900_0 (IntKind.i64.wrap (((m3900_0.length : Nat) : Int) - 1))).2) == ((atI a0_3 x10_0).1)) (cond (decide (0 ≤ (IntKind.i64.wrap (((m3900_0.length : Nat) : Int) - 1)))) (cond (decide ((IntKind.i64.wrap (((m3900_0.length : Nat) : Int) - 1)) < ((m3900_0.length : Nat) : Int))) (cond (decide (0 ≤ (IntKind.i64.wrap (((m3900_0.length : Nat) : Int) - 1)))) (cond (decide ((IntKind.i64.wrap (((m3900_0.length : Nat) : Int) - 1)) < ((m3900_0.length : Nat) : Int))) (NX (IntKind.i64.wrap (x10_0 + 1)) (m3900_0.set ((IntKind.i64.wrap (((m3900_0.length : Nat) : Int) - 1)).toNat) ((atI m3900_0 (IntKind.i64.wrap (((m3900_0.length : Nat) : Int) - 1))).1, IntKind.i64.wrap (((atI m3900_0 (IntKind.i64.wrap (((m3900_0.length : Nat) : Int) - 1))).2) + 1)))) none) none) none) none) (F172_l0_j1 k a0_0 a0_1 a0_2 a0_3 NX RET m3900_0 x10_0)) none) none) (F172_l0_j1 k a0_0 a0_1 a0_2 a0_3 NX RET m3900_0 x10_0)) none) none) (cond (decide (0 ≤ (if 2 < ((m3900_0.length : Nat) : Int) then 2 else ((m3900_0.length : Nat) : Int))) && decide ((if 2 < ((m3900_0.length : Nat) : Int) then 2 else ((m3900_0.length : Nat) : Int)) ≤ ((m3900_0.length : Nat) : Int))) ((F136 k ((m3900_0.take ((if 2 < ((m3900_0.length : Nat) : Int) then 2 else ((m3900_0.length : Nat) : Int)).toNat)).drop 0)).bind fun b1 => RET b1) none)
def F172_l0 (k : Nat) (a0_0 a0_1 : Int) (a0_2 : List (den (.int .u8))) (a0_3 : List (den erl)) : Nat → Int → List (den rng) → Option (List (den rng))
  | 0, _, _ => none
  | n + 1, x10_0, m3900_0 => F172_l0_T k a0_0 a0_1 a0_2 a0_3 (fun x10_0 m3900_0 => F172_l0 k a0_0 a0_1 a0_2 a0_3 n x10_0 m3900_0) some x10_0 m3900_0
theorem F172_l0_rd {β : Type} (k n : Nat) (a0_0 a0_1 : Int) (a0_2 : List (den (.int .u8))) (a0_3 : List (den erl)) (x10_0 : Int) (m3900_0 : List (den rng)) (K : A × List (List Leaf) → Option β) :
    loopG (F172_E k) Try.f172 [1, 1, 0, 1, 0] 0 (kontAt (F172_E k) [1, 1, 0, 1, 0] (bodyOf Try.f172) 0 (endC (F172_E k) Try.f172 (F172_a a0_0 a0_1 a0_2 a0_3) K)) (n + 1) (F172_s0 a0_0 a0_1 a0_2 a0_3 x10_0 m3900_0) =
    F172_l0_T k a0_0 a0_1 a0_2 a0_3 (fun x10_0 m3900_0 => loopG (F172_E k) Try.f172 [1, 1, 0, 1, 0] 0 (kontAt (F172_E k) [1, 1, 0, 1, 0] (bodyOf Try.f172) 0 (endC (F172_E k) Try.f172 (F172_a a0_0 a0_1 a0_2 a0_3) K)) n (F172_s0 a0_0 a0_1 a0_2 a0_3 x10_0 m3900_0)) (fun r => K (F172_r r)) x10_0 m3900_0 := by kernel_rfl
theorem F172_l0_lp {β : Type} (k : Nat) (a0_0 a0_1 : Int) (a0_2 : List (den (.int .u8))) (a0_3 : List (den erl)) (K : A × List (List Leaf) → Option β) (n : Nat) : ∀ (x10_0 : Int) (m3900_0 : List (den rng)), loopG (F172_E k) Try.f172 [1, 1, 0, 1, 0] 0 (kontAt (F172_E k) [1, 1, 0, 1, 0] (bodyOf Try.f172) 0 (endC (F172_E k) Try.f172 (F172_a a0_0 a0_1 a0_2 a0_3) K)) n (F172_s0 a0_0 a0_1 a0_2 a0_3 x10_0 m3900_0) =
    (F172_l0 k a0_0 a0_1 a0_2 a0_3 n x10_0 m3900_0).bind fun r => K (F172_r r) := by
  induction n with
  | zero => intros; rfl
  | succ n ih =>
    intros
    rw [F172_l0_rd, F172_l0]
    simp only [F172_l0_T, F172_l0_j1, bind_cond, Option.bind_assoc, Option.bind_some, Option.bind_none, Option.bind_fun_some, ih]
def F172_T {β : Type} (k : Nat) (a0_0 a0_1 : Int) (a0_2 : List (den (.int .u8))) (a0_3 : List (den erl)) (LP0 : Int → List (den rng) → Option β) : Option β := LP0 0 []
def F172 (k : Nat) (a0_0 a0_1 : Int) (a0_2 : List (den (.int .u8))) (a0_3 : List (den erl)) : Option (List (den rng)) := F172_T k a0_0 a0_1 a0_2 a0_3 (fun x10_0 m3900_0 => F172_l0 k a0_0 a0_1 a0_2 a0_3 k x10_0 m3900_0)
theorem F172_st {β : Type} (k : Nat) (a0_0 a0_1 : Int) (a0_2 : List (den (.int .u8))) (a0_3 : List (den erl)) (K : A × List (List Leaf) → Option β) : evalF (F172_E k) Try.f172 (F172_a a0_0 a0_1 a0_2 a0_3) K =
    F172_T k a0_0 a0_1 a0_2 a0_3 (fun x10_0 m3900_0 => loopG (F172_E k) Try.f172 [1, 1, 0, 1, 0] 0 (kontAt (F172_E k) [1, 1, 0, 1, 0] (bodyOf Try.f172) 0 (endC (F172_E k) Try.f172 (F172_a a0_0 a0_1 a0_2 a0_3) K)) k (F172_s0 a0_0 a0_1 a0_2 a0_3 x10_0 m3900_0)) := by kernel_rfl
theorem F172_ev {β : Type} (k : Nat) (a0_0 a0_1 : Int) (a0_2 : List (den (.int .u8))) (a0_3 : List (den erl)) (K : A × List (List Leaf) → Option β) : evalF (F172_E k) Try.f172 (F172_a a0_0 a0_1 a0_2 a0_3) K = (F172 k a0_0 a0_1 a0_2 a0_3).bind fun r => K (F172_r r) := by
  rw [F172_st, F172]
  simp only [F172_T, bind_cond, Option.bind_assoc, Option.bind_some, Option.bind_none, Option.bind_fun_some, F172_l0_lp]
theorem F172_tOk (k : Nat) : TabFn Try.prog (F172_t k) := .ent (F136_q k) F136_f (.none)
theorem F172_con (k : Nat) (a0_0 a0_1 : Int) (a0_2 : List (den (.int .u8))) (a0_3 : List (den erl)) : Contract Try.prog 172 (F172_a a0_0 a0_1 a0_2 a0_3) ⟨F172 k a0_0 a0_1 a0_2 a0_3, F172_r⟩ := con_of (envOk (F172_tOk k) _ _ _ _) mixed Try.func172 rfl rfl (F172_ev k a0_0 a0_1 a0_2 a0_3 some)
def F172_sh : List AK := [.agg [.l (.int .i64), .l (.int .i64), .l (.sl .ro (.int .u8)), .l (.sl .ro erl)]]
def F172_p (k : Nat) : List Arg → Option CR := cle F172_sh fun x => ⟨F172 k x.1.1 x.1.2.1 x.1.2.2.1 x.1.2.2.2.1, F172_r⟩
theorem F172_q (k : Nat) : ∀ xs cr, F172_p k xs = some cr → Contract Try.prog 172 xs cr := cle_ok fun x => F172_con k _ _ _ _
theorem F172_f : FnOk Try.prog 172 := .of (by kernel_rfl)
/-! 137: loop.example/netstack/impl.clone[byte] -/
abbrev F137_2_E (k : Nat) : Env := env noTab noHint .own [] k
abbrev F137_2_a : List Arg := [.one (.l (.v (.slice none 0 0)))]
def F137_2_r (r : List (den (.int .u8))) : A × List (List Leaf) := (.one (.s .own (.int .u8) r), [])
def F137_2 (k : Nat) : Option (List (den (.int .u8))) := some []
theorem F137_2_st {β : Type} (k : Nat) (K : A × List (List Leaf) → Option β) : evalF (F137_2_E k) Try.f137 (F137_2_a) K =
    K (.one (.s .own (.int .u8) []), []) := by kernel_rfl
theorem F137_2_ev {β : Type} (k : Nat) (K : A × List (List Leaf) → Option β) : evalF (F137_2_E k) Try.f137 (F137_2_a) K = (F137_2 k).bind fun r => K (F137_2_r r) := by
  rw [F137_2_st, F137_2]
  simp only [F137_2_r, bind_cond, Option.bind_assoc, Option.bind_some, Option.bind_none, Option.bind_fun_some]
theorem F137_2_con (k : Nat) : Contract Try.prog 137 (F137_2_a) ⟨F137_2 k, F137_2_r⟩ := con_of (envOk .none _ _ _ _) mixed Try.func137 rfl rfl (F137_2_ev k some)
def F137_2_sh : List AK := [.one (.l (.nil))]
def F137_2_p (k : Nat) : List Arg → Option CR := cle F137_2_sh fun x => ⟨F137_2 k, F137_2_r⟩
theorem F137_2_q (k : Nat) : ∀ xs cr, F137_2_p k xs = some cr → Contract Try.prog 137 xs cr := cle_ok fun x => F137_2_con k
/-! 68: (loop.example/netstack/impl.Segment).copy -/
def F68_t (k : Nat) : Tab := entT 136 (F136_p k) <| entT 137 (F137_2_p k) <| noTab
abbrev F68_E (k : Nat) : Env := env (F68_t k) noHint .own [] k
abbrev F68_a (a0_0 a0_1 a0_2 a0_3 a0_4 : Int) (a0_5 a0_6 a0_7 a0_8 : Bool) (a0_9 : List (den rng)) : List Arg := [.agg [.l (.v (.int .i64 a0_0)), .l (.v (.int .i64 a0_1)), .l (.v (.int .i64 a0_2)), .l (.v (.int .i64 a0_3)), .l (.v (.int .i64 a0_4)), .l (.v (.bool a0_5)), .l (.v (.bool a0_6)), .l (.v (.bool a0_7)), .l (.v (.bool a0_8)), .l (.s .ro rng a0_9), .l (.v (.slice none 0 0))]]
def F68_r (r : Int × Int × Int × Int × Int × Bool × Bool × Bool × Bool × List (den rng) × List (den (.int .u8))) : A × List (List Leaf) := (.agg [.v (.int .i64 r.1), .v (.int .i64 r.2.1), .v (.int .i64 r.2.2.1), .v (.int .i64 r.2.2.2.1), .v (.int .i64 r.2.2.2.2.1), .v (.bool r.2.2.2.2.2.1), .v (.bool r.2.2.2.2.2.2.1), .v (.bool r.2.2.2.2.2.2.2.1), .v (.bool r.2.2.2.2.2.2.2.2.1), .s .own rng r.2.2.2.2.2.2.2.2.2.1, .s .own (.int .u8) r.2.2.2.2.2.2.2.2.2.2], [])
def F68_T {β : Type} (k : Nat) (a0_0 a0_1 a0_2 a0_3 a0_4 : Int) (a0_5 a0_6 a0_7 a0_8 : Bool) (a0_9 : List (den rng)) (RET : (Int × Int × Int × Int × Int × Bool × Bool × Bool × Bool × List (den rng) × List (den (.int .u8))) → Option β) : Option β := (F136 k a0_9).bind fun b1 => (F137_2 k).bind fun b2 => RET (a0_0, a0_1, a0_2, a0_3, a0_4, a0_5, a0_6, a0_7, a0_8, b1, b2)
def F68 (k : Nat) (a0_0 a0_1 a0_2 a0_3 a0_4 : Int) (a0_5 a0_6 a0_7 a0_8 : Bool) (a0_9 : List (den rng)) : Option (Int × Int × Int × Int × Int × Bool × Bool × Bool × Bool × List (den rng) × List (den (.int .u8))) := F68_T k a0_0 a0_1 a0_2 a0_3 a0_4 a0_5 a0_6 a0_7 a0_8 a0_9 some
theorem F68_st {β : Type} (k : Nat) (a0_0 a0_1 a0_2 a0_3 a0_4 : Int) (a0_5 a0_6 a0_7 a0_8 : Bool) (a0_9 : List (den rng)) (K : A × List (List Leaf) → Option β) : evalF (F68_E k) Try.f68 (F68_a a0_0 a0_1 a0_2 a0_3 a0_4 a0_5 a0_6 a0_7 a0_8 a0_9) K =
    F68_T k a0_0 a0_1 a0_2 a0_3 a0_4 a0_5 a0_6 a0_7 a0_8 a0_9 (fun r => K (F68_r r)) := by kernel_rfl
theorem F68_ev {β : Type} (k : Nat) (a0_0 a0_1 a0_2 a0_3 a0_4 : Int) (a0_5 a0_6 a0_7 a0_8 : Bool) (a0_9 : List (den rng)) (K : A × List (List Leaf) → Option β) : evalF (F68_E k) Try.f68 (F68_a a0_0 a0_1 a0_2 a0_3 a0_4 a0_5 a0_6 a0_7 a0_8 a0_9) K = (F68 k a0_0 a0_1 a0_2 a0_3 a0_4 a0_5 a0_6 a0_7 a0_8 a0_9).bind fun r => K (F68_r r) := by
  rw [F68_st, F68]
  simp only [F68_T, bind_cond, Option.bind_assoc, Option.bind_some, Option.bind_none, Option.bind_fun_some]
theorem F68_tOk (k : Nat) : TabFn Try.prog (F68_t k) := .ent (F136_q k) F136_f (.ent (F137_2_q k) F137_f (.none))
theorem F68_con (k : Nat) (a0_0 a0_1 a0_2 a0_3 a0_4 : Int) (a0_5 a0_6 a0_7 a0_8 : Bool) (a0_9 : List (den rng)) : Contract Try.prog 68 (F68_a a0_0 a0_1 a0_2 a0_3 a0_4 a0_5 a0_6 a0_7 a0_8 a0_9) ⟨F68 k a0_0 a0_1 a0_2 a0_3 a0_4 a0_5 a0_6 a0_7 a0_8 a0_9, F68_r⟩ := con_of (envOk (F68_tOk k) _ _ _ _) mixed Try.func68 rfl rfl (F68_ev k a0_0 a0_1 a0_2 a0_3 a0_4 a0_5 a0_6 a0_7 a0_8 a0_9 some)
def F68_sh : List AK := [.agg [.l (.int .i64), .l (.int .i64), .l (.int .i64), .l (.int .i64), .l (.int .i64), .l (.bool), .l (.bool), .l (.bool), .l (.bool), .l (.sl .ro rng), .l (.nil)]]
def F68_p (k : Nat) : List Arg → Option CR := cle F68_sh fun x => ⟨F68 k x.1.1 x.1.2.1 x.1.2.2.1 x.1.2.2.2.1 x.1.2.2.2.2.1 x.1.2.2.2.2.2.1 x.1.2.2.2.2.2.2.1 x.1.2.2.2.2.2.2.2.1 x.1.2.2.2.2.2.2.2.2.1 x.1.2.2.2.2.2.2.2.2.2.1, F68_r⟩
theorem F68_q (k : Nat) : ∀ xs cr, F68_p k xs = some cr → Contract Try.prog 68 xs cr := cle_ok fun x => F68_con k _ _ _ _ _ _ _ _ _ _
theorem F68_f : FnOk Try.prog 68 := .of (by kernel_rfl)
/-! 149: (loop.example/netstack/impl.End).segment -/
def F149_h : Nat → Hint
  | 0 => ⟨[(6, .plain), (7, .plain), (26, .plain), (27, .plain), (28, .plain)], [(6000, .plain), (6001, .plain), (6002, .plain), (6003, .plain), (6004, .plain), (6005, .plain), (6006, .plain), (6007, .plain), (6008, .plain), (6009, .plain), (6010, .plain), (7000, .plain), (7001, .plain), (7002, .plain), (7003, .plain), (7004, .plain), (7005, .plain), (7006, .plain), (7007, .plain), (7008, .plain), (7009, .own .own rng []), (7010, .plain), (26000, .plain)]⟩
  | _ => ⟨[], []⟩
def F149_t (k : Nat) : Tab := entT 67 (F67_p k) <| entT 171 (F171_p k) <| entT 124 (F124_p k) <| entT 172 (F172_p k) <| entT 68 (F68_p k) <| noTab
abbrev F149_E (k : Nat) : Env := env (F149_t k) F149_h .own [] k
abbrev F149_a (a0_0 a0_1 a0_2 a0_3 a0_4 a0_5 a0_6 : Int) (a0_7 : List (den (.int .u8))) (a0_8 a0_9 : Int) (a0_10 : List (den rng)) (a0_11 a0_12 : Int) (a0_13 : List (den (.int .u8))) (a0_14 : List (den erl)) (a0_15 a0_16 a0_17 : Bool) (a0_18 a0_19 a0_20 a0_21 a0_22 a0_23 a1 : Int) : List Arg := [.agg [.l (.v (.int .i64 a0_0)), .l (.v (.int .i64 a0_1)), .l (.v (.int .i64 a0_2)), .l (.v (.int .i64 a0_3)), .l (.v (.int .i64 a0_4)), .l (.v (.int .i64 a0_5)), .l (.v (.int .i64 a0_6)), .l (.s .ro (.int .u8) a0_7), .l (.v (.int .i64 a0_8)), .l (.v (.int .i64 a0_9)), .l (.s .ro rng a0_10), .l (.v (.int .i64 a0_11)), .l (.v (.int .i64 a0_12)), .l (.s .ro (.int .u8) a0_13), .l (.s .ro erl a0_14), .l (.v (.bool a0_15)), .l (.v (.bool a0_16)), .l (.v (.bool a0_17)), .l (.v (.int .i64 a0_18)), .l (.v (.int .i64 a0_19)), .l (.v (.int .i64 a0_20)), .l (.v (.int .i64 a0_21)), .l (.v (.int .i64 a0_22)), .l (.v (.int .i64 a0_23))], .one (.l (.v (.int .i64 a1))), .one (.l (.v (.slice none 0 0)))]
def F149_r (r : Int × Int × Int × Int × Int × Bool × Bool × Bool × Bool × List (den rng) × List (den (.int .u8))) : A × List (List Leaf) := (.agg [.v (.int .i64 r.1), .v (.int .i64 r.2.1), .v (.int .i64 r.2.2.1), .v (.int .i64 r.2.2.2.1), .v (.int .i64 r.2.2.2.2.1), .v (.bool r.2.2.2.2.2.1), .v (.bool r.2.2.2.2.2.2.1), .v (.bool r.2.2.2.2.2.2.2.1), .v (.bool r.2.2.2.2.2.2.2.2.1), .s .own rng r.2.2.2.2.2.2.2.2.2.1, .s .own (.int .u8) r.2.2.2.2.2.2.2.2.2.2], [])
def F149_s0 (a0_0 a0_1 a0_2 a0_3 a0_4 a0_5 a0_6 : Int) (a0_7 : List (den (.int .u8))) (a0_8 a0_9 : Int) (a0_10 : List (den rng)) (a0_11 a0_12 : Int) (a0_13 : List (den (.int .u8))) (a0_14 : List (den erl)) (a0_15 a0_16 a0_17 : Bool) (a0_18 a0_19 a0_20 a0_21 a0_22 a0_23 a1 : Int) (x27_0 x28_0 m7002_0 m7003_0 m7004_0 : Int) (m7009_0 m26000_0 : List (den rng)) : St := ⟨dz 6 ((.one (.ptr (.cell 6000) 11 0)) :: (.one (.ptr (.cell 7000) 11 0)) :: dz 18 ((.one (.a (.cell 26000) 0 0 none)) :: (.one (.v (.int .i64 x27_0))) :: (.one (.v (.int .i64 x28_0))) :: dz 18 [])), [(6000, ⟨.v (.int .i64 0), 0, 0⟩), (6001, ⟨.v (.int .i64 0), 0, 0⟩), (6002, ⟨.v (.int .i64 0), 0, 0⟩), (6003, ⟨.v (.int .i64 0), 0, 0⟩), (6004, ⟨.v (.int .i64 0), 0, 0⟩), (6005, ⟨.v (.bool false), 0, 0⟩), (6006, ⟨.v (.bool false), 0, 0⟩), (6007, ⟨.v (.bool false), 0, 0⟩), (6008, ⟨.v (.bool false), 0, 0⟩), (6009, ⟨.s .own rng [], 0, 0⟩), (6010, ⟨.s .own (.int .u8) [], 0, 0⟩), (7000, ⟨.v (.int .i64 a0_2), 0, 0⟩), (7001, ⟨.v (.int .i64 a0_4), 0, 0⟩), (7002, ⟨.v (.int .i64 m7002_0), 0, 0⟩), (7003, ⟨.v (.int .i64 m7003_0), 0, 0⟩), (7004, ⟨.v (.int .i64 m7004_0), 0, 0⟩), (7005, ⟨.v (.bool false), 0, 0⟩), (7006, ⟨.v (.bool true), 0, 0⟩), (7007, ⟨.v (.bool false), 0, 0⟩), (7008, ⟨.v (.bool false), 0, 0⟩), (7009, ⟨.s .own rng m7009_0, 0, 0⟩), (7010, ⟨.v (.slice none 0 0), 0, 0⟩), (26000, ⟨.s .own rng m26000_0, 0, 0⟩)]⟩
def F149_l0_T {β : Type} (k : Nat) (a0_0 a0_1 a0_2 a0_3 a0_4 a0_5 a0_6 : Int) (a0_7 : List (den (.int .u8))) (a0_8 a0_9 : Int) (a0_10 : List (den rng)) (a0_11 a0_12 : Int) (a0_13 : List (den (.int .u8))) (a0_14 : List (den erl)) (a0_15 a0_16 a0_17 : Bool) (a0_18 a0_19 a0_20 a0_21 a0_22 a0_23 a1 : Int) (NX : Int → Int → Int → Int → Int → List (den rng) → List (den rng) → Option β) (RET : (Int × Int × Int × Int × Int × Bool × Bool × Bool × Bool × List (den rng) × List (den (.int .u8))) → Option β) (x27_0 x28_0 m7002_0 m7003_0 m7004_0 : Int) (m7009_0 m26000_0 : List (den rng)) : Option β := cond (decide (x28_0 < x27_0)) (cond (decide (0 ≤ x28_0)) (cond (decide (x28_0 < ((m26000_0.length : Nat) : Int))) ((F67 k ((atI m26000_0 x28_0).1)).bind fun b6 => (F67 k ((atI m26000_0 x28_0).2)).bind fun b7 => cond (decide ((m7009_0.length + [(b6, b7)].length) * 16 ≤ 140737488355328)) (NX x27_0 (IntKind.i64.wrap (x28_0 + 1)) m7002_0 m7003_0 m7004_0 (m7009_0 ++ [(b6, b7)]) m26000_0) none) none) none) ((F68 k a0_2 a0_4 m7002_0 m7003_0 m7004_0 false true false false m7009_0).bind fun b8 => RET (b8.1, b8.2.1, b8.2.2.1, b8.2.2.2.1, b8.2.2.2.2.1, b8.2.2.2.2.2.1, b8.2.2.2.2.2.2.1, b8.2.2.2.2.2.2.2.1, b8.2.2.2.2.2.2.2.2.1, b8.2.2.2.2.2.2.2.2.2.1, b8.2.2.2.2.2.2.2.2.2.2))
def F149_l0 (k : Nat) (a0_0 a0_1 a0_2 a0_3 a0_4 a0_5 a0_6 : Int) (a0_7 : List (den (.int .u8))) (a0_8 a0_9 : Int) (a0_10 : List (den rng)) (a0_11 a0_12 : Int) (a0_13 : List (den (.int .u8))) (a0_14 : List (den erl)) (a0_15 a0_16 a0_17 : Bool) (a0_18 a0_19 a0_20 a0_21 a0_22 a0_23 a1 : Int) : Nat → Int → Int → Int → Int → Int → List (den rng) → List (den rng) → Option (Int × Int × Int × Int × Int × Bool × Bool × Bool × Bool × List (den rng) × List (den (.int .u8)))
  | 0, _, _, _, _, _, _, _ => none
  | n + 1, x27_0, x28_0, m7002_0, m7003_0, m7004_0, m7009_0, m26000_0 => F149_l0_T k a0_0 a0_1 a0_2 a0_3 a0_4 a0_5 a0_6 a0_7 a0_8 a0_9 a0_10 a0_11 a0_12 a0_13 a0_14 a0_15 a0_16 a0_17 a0_18 a0_19 a0_20 a0_21 a0_22 a0_23 a1 (fun x27_0 x28_0 m7002_0 m7003_0 m7004_0 m7009_0 m26000_0 => F149_l0 k a0_0 a0_1 a0_2 a0_3 a0_4 a0_5 a0_6 a0_7 a0_8 a0_9 a0_10 a0_11 a0_12 a0_13 a0_14 a0_15 a0_16 a0_17 a0_18 a0_19 a0_20 a0_21 a0_22 a0_23 a1 n x27_0 x28_0 m7002_0 m7003_0 m7004_0 m7009_0 m26000_0) some x27_0 x28_0 m7002_0 m7003_0 m7004_0 m7009_0 m26000_0
theorem F149_l0_rd {β : Type} (k n : Nat) (a0_0 a0_1 a0_2 a0_3 a0_4 a0_5 a0_6 : Int) (a0_7 : List (den (.int .u8))) (a0_8 a0_9 : Int) (a0_10 : List (den rng)) (a0_11 a0_12 : Int) (a0_13 : List (den (.int .u8))) (a0_14 : List (den erl)) (a0_15 a0_16 a0_17 : Bool) (a0_18 a0_19 a0_20 a0_21 a0_22 a0_23 a1 : Int) (x27_0 x28_0 m7002_0 m7003_0 m7004_0 : Int) (m7009_0 m26000_0 : List (den rng)) (K : A × List (List Leaf) → Option β) :
    loopG (F149_E k) Try.f149 [1, 1, 0, 1, 0] 0 (kontAt (F149_E k) [1, 1, 0, 1, 0] (bodyOf Try.f149) 0 (endC (F149_E k) Try.f149 (F149_a a0_0 a0_1 a0_2 a0_3 a0_4 a0_5 a0_6 a0_7 a0_8 a0_9 a0_10 a0_11 a0_12 a0_13 a0_14 a0_15 a0_16 a0_17 a0_18 a0_19 a0_20 a0_21 a0_22 a0_23 a1) K)) (n + 1) (F149_s0 a0_0 a0_1 a0_2 a0_3 a0_4 a0_5 a0_6 a0_7 a0_8 a0_9 a0_10 a0_11 a0_12 a0_13 a0_14 a0_15 a0_16 a0_17 a0_18 a0_19 a0_20 a0_21 a0_22 a0_23 a1 x27_0 x28_0 m7002_0 m7003_0 m7004_0 m7009_0 m26000_0) =
    F149_l0_T k a0_0 a0_1 a0_2 a0_3 a0_4 a0_5 a0_6 a0_7 a0_8 a0_9 a0_10 a0_11 a0_12 a0_13 a0_14 a0_15 a0_16 a0_17 a0_18 a0_19 a0_20 a0_21 a0_22 a0_23 a1 (fun x27_0 x28_0 m7002_0 m7003_0 m7004_0 m7009_0 m26000_0 => loopG (F149_E k) Try.f149 [1, 1, 0, 1, 0] 0 (kontAt (F149_E k) [1, 1, 0, 1, 0] (bodyOf Try.f149) 0 (endC (F149_E k) Try.f149 (F149_a a0_0 a0_1 a0_2 a0_3 a0_4 a0_5 a0_6 a0_7 a0_8 a0_9 a0_10 a0_11 a0_12 a0_13 a0_14 a0_15 a0_16 a0_17 a0_18 a0_19 a0_20 a0_21 a0_22 a0_23 a1) K)) n (F149_s0 a0_0 a0_1 a0_2 a0_3 a0_4 a0_5 a0_6 a0_7 a0_8 a0_9 a0_10 a0_11 a0_12 a0_13 a0_14 a0_15 a0_16 a0_17 a0_18 a0_19 a0_20 a0_21 a0_22 a0_23 a1 x27_0 x28_0 m7002_0 m7003_0 m7004_0 m7009_0 m26000_0)) (fun r => K (F149_r r)) x27_0 x28_0 m7002_0 m7003_0 m7004_0 m7009_0 m26000_0 := by kernel_rfl
theorem F149_l0_lp {β : Type} (k : Nat) (a0_0 a0_1 a0_2 a0_3 a0_4 a0_5 a0_6 : Int) (a0_7 : List (den (.int .u8))) (a0_8 a0_9 : Int) (a0_10 : List (den rng)) (a0_11 a0_12 : Int) (a0_13 : List (den (.int .u8))) (a0_14 : List (den erl)) (a0_15 a0_16 a0_17 : Bool) (a0_18 a0_19 a0_20 a0_21 a0_22 a0_23 a1 : Int) (K : A × List (List Leaf) → Option β) (n : Nat) : ∀ (x27_0 x28_0 m7002_0 m7003_0 m7004_0 : Int) (m7009_0 m26000_0 : List (den rng)), loopG (F149_E k) Try.f149 [1, 1, 0, 1, 0] 0 (kontAt (F149_E k) [1, 1, 0, 1, 0] (bodyOf Try.f149) 0 (endC (F149_E k) Try.f149 (F149_a a0_0 a0_1 a0_2 a0_3 a0_4 a0_5 a0_6 a0_7 a0_8 a0_9 a0_10 a0_11 a0_12 a0_13 a0_14 a0_15 a0_16 a0_17 a0_18 a0_19 a0_20 a0_21 a0_22 a0_23 a1) K)) n (F149_s0 a0_0 a0_1 a0_2 a0_3 a0_4 a0_5 a0_6 a0_7 a0_8 a0_9 a0_10 a0_11 a0_12 a0_13 a0_14 a0_15 a0_16 a0_17 a0_18 a0_19 a0_20 a0_21 a0_22 a0_23 a1 x27_0 x28_0 m7002_0 m7003_0 m7004_0 m7009_0 m26000_0) =
    (F149_l0 k a0_0 a0_1 a0_2 a0_3 a0_4 a0_5 a0_6 a0_7 a0_8 a0_9 a0_10 a0_11 a0_12 a0_13 a0_14 a0_15 a0_16 a0_17 a0_18 a0_19 a0_20 a0_21 a0_22 a0_23 a1 n x27_0 x28_0 m7002_0 m7003_0 m7004_0 m7009_0 m26000_0).bind fun r => K (F149_r r) := by
  induction n with
  | zero => intros; rfl
  | succ n ih =>
    intros
    rw [F149_l0_rd, F149_l0]
    simp only [F149_l0_T, bind_cond, Option.bind_assoc, Option.bind_some, Option.bind_none, Option.bind_fun_some, ih]
def F149_T {β : Type} (k : Nat) (a0_0 a0_1 a0_2 a0_3 a0_4 a0_5 a0_6 : Int) (a0_7 : List (den (.int .u8))) (a0_8 a0_9 : Int) (a0_10 : List (den rng)) (a0_11 a0_12 : Int) (a0_13 : List (den (.int .u8))) (a0_14 : List (den erl)) (a0_15 a0_16 a0_17 : Bool) (a0_18 a0_19 a0_20 a0_21 a0_22 a0_23 a1 : Int) (LP0 : Int → Int → Int → Int → Int → List (den rng) → List (den rng) → Option β) : Option β := (F67 k a1).bind fun b1 => (F171 k a0_0 a0_1 a0_2 a0_3 a0_4 a0_5 a0_6 a0_7 a0_8 a0_9 a0_10 a0_11 a0_12 a0_13 a0_14 a0_15 a0_16 a0_17 a0_18 a0_19 a0_20 a0_21 a0_22 a0_23).bind fun b2 => (F67 k b2).bind fun b3 => (F124 k a0_11 a0_12 a0_13 a0_14).bind fun b4 => (F172 k a0_11 a0_12 a0_13 a0_14).bind fun b5 => LP0 ((b5.length : Nat) : Int) 0 b1 b3 b4 [] b5
def F149 (k : Nat) (a0_0 a0_1 a0_2 a0_3 a0_4 a0_5 a0_6 : Int) (a0_7 : List (den (.int .u8))) (a0_8 a0_9 : Int) (a0_10 : List (den rng)) (a0_11 a0_12 : Int) (a0_13 : List (den (.int .u8))) (a0_14 : List (den erl)) (a0_15 a0_16 a0_17 : Bool) (a0_18 a0_19 a0_20 a0_21 a0_22 a0_23 a1 : Int) : Option (Int × Int × Int × Int × Int × Bool × Bool × Bool × Bool × List (den rng) × List (den (.int .u8))) := F149_T k a0_0 a0_1 a0_2 a0_3 a0_4 a0_5 a0_6 a0_7 a0_8 a0_9 a0_10 a0_11 a0_12 a0_13 a0_14 a0_15 a0_16 a0_17 a0_18 a0_19 a0_20 a0_21 a0_22 a0_23 a1 (fun x27_0 x28_0 m7002_0 m7003_0 m7004_0 m7009_0 m26000_0 => F149_l0 k a0_0 a0_1 a0_2 a0_3 a0_4 a0_5 a0_6 a0_7 a0_8 a0_9 a0_10 a0_11 a0_12 a0_13 a0_14 a0_15 a0_16 a0_17 a0_18 a0_19 a0_20 a0_21 a0_22 a0_23 a1 k x27_0 x28_0 m7002_0 m7003_0 m7004_0 m7009_0 m26000_0)
theorem F149_st {β : Type} (k : Nat) (a0_0 a0_1 a0_2 a0_3 a0_4 a0_5 a0_6 : Int) (a0_7 : List (den (.int .u8))) (a0_8 a0_9 : Int) (a0_10 : List (den rng)) (a0_11 a0_12 : Int) (a0_13 : List (den (.int .u8))) (a0_14 : List (den erl)) (a0_15 a0_16 a0_17 : Bool) (a0_18 a0_19 a0_20 a0_21 a0_22 a0_23 a1 : Int) (K : A × List (List Leaf) → Option β) : evalF (F149_E k) Try.f149 (F149_a a0_0 a0_1 a0_2 a0_3 a0_4 a0_5 a0_6 a0_7 a0_8 a0_9 a0_10 a0_11 a0_12 a0_13 a0_14 a0_15 a0_16 a0_17 a0_18 a0_19 a0_20 a0_21 a0_22 a0_23 a1) K =
    F149_T k a0_0 a0_1 a0_2 a0_3 a0_4 a0_5 a0_6 a0_7 a0_8 a0_9 a0_10 a0_11 a0_12 a0_13 a0_14 a0_15 a0_16 a0_17 a0_18 a0_19 a0_20 a0_21 a0_22 a0_23 a1 (fun x27_0 x28_0 m7002_0 m7003_0 m7004_0 m7009_0 m26000_0 => loopG (F149_E k) Try.f149 [1, 1, 0, 1, 0] 0 (kontAt (F149_E k) [1, 1, 0, 1, 0] (bodyOf Try.f149) 0 (endC (F149_E k) Try.f149 (F149_a a0_0 a0_1 a0_2 a0_3 a0_4 a0_5 a0_6 a0_7 a0_8 a0_9 a0_10 a0_11 a0_12 a0_13 a0_14 a0_15 a0_16 a0_17 a0_18 a0_19 a0_20 a0_21 a0_22 a0_23 a1) K)) k (F149_s0 a0_0 a0_1 a0_2 a0_3 a0_4 a0_5 a0_6 a0_7 a0_8 a0_9 a0_10 a0_11 a0_12 a0_13 a0_14 a0_15 a0_16 a0_17 a0_18 a0_19 a0_20 a0_21 a0_22 a0_23 a1 x27_0 x28_0 m7002_0 m7003_0 m7004_0 m7009_0 m26000_0)) := by kernel_rfl
theorem F149_ev {β : Type} (k : Nat) (a0_0 a0_1 a0_2 a0_3 a0_4 a0_5 a0_6 : Int) (a0_7 : List (den (.int .u8))) (a0_8 a0_9 : Int) (a0_10 : List (den rng)) (a0_11 a0_12 : Int) (a0_13 : List (den (.int .u8))) (a0_14 : List (den erl)) (a0_15 a0_16 a0_17 : Bool) (a0_18 a0_19 a0_20 a0_21 a0_22 a0_23 a1 : Int) (K : A × List (List Leaf) → Option β) : evalF (F149_E k) Try.f149 (F149_a a0_0 a0_1 a0_2 a0_3 a0_4 a0_5 a0_6 a0_7 a0_8 a0_9 a0_10 a0_11 a0_12 a0_13 a0_14 a0_15 a0_16 a0_17 a0_18 a0_19 a0_20 a0_21 a0_22 a0_23 a1) K = (F149 k a0_0 a0_1 a0_2 a0_3 a0_4 a0_5 a0_6 a0_7 a0_8 a0_9 a0_10 a0_11 a0_12 a0_13 a0_14 a0_15 a0_16 a0_17 a0_18 a0_19 a0_20 a0_21 a0_22 a0_23 a1).bind fun r => K (F149_r r) := by
  rw [F149_st, F149]
  simp only [F149_T, bind_cond, Option.bind_assoc, Option.bind_some, Option.bind_none, Option.bind_fun_some, F149_l0_lp]
theorem F149_tOk (k : Nat) : TabFn Try.prog (F149_t k) := .ent (F67_q k) F67_f (.ent (F171_q k) F171_f (.ent (F124_q k) F124_f (.ent (F172_q k) F172_f (.ent (F68_q k) F68_f (.none)))))
theorem F149_con (k : Nat) (a0_0 a0_1 a0_2 a0_3 a0_4 a0_5 a0_6 : Int) (a0_7 : List (den (.int .u8))) (a0_8 a0_9 : Int) (a0_10 : List (den rng)) (a0_11 a0_12 : Int) (a0_13 : List (den (.int .u8))) (a0_14 : List (den erl)) (a0_15 a0_16 a0_17 : Bool) (a0_18 a0_19 a0_20 a0_21 a0_22 a0_23 a1 : Int) : Contract Try.prog 149 (F149_a a0_0 a0_1 a0_2 a0_3 a0_4 a0_5 a0_6 a0_7 a0_8 a0_9 a0_10 a0_11 a0_12 a0_13 a0_14 a0_15 a0_16 a0_17 a0_18 a0_19 a0_20 a0_21 a0_22 a0_23 a1) ⟨F149 k a0_0 a0_1 a0_2 a0_3 a0_4 a0_5 a0_6 a0_7 a0_8 a0_9 a0_10 a0_11 a0_12 a0_13 a0_14 a0_15 a0_16 a0_17 a0_18 a0_19 a0_20 a0_21 a0_22 a0_23 a1, F149_r⟩ := con_of (envOk (F149_tOk k) _ _ _ _) mixed Try.func149 rfl rfl (F149_ev k a0_0 a0_1 a0_2 a0_3 a0_4 a0_5 a0_6 a0_7 a0_8 a0_9 a0_10 a0_11 a0_12 a0_13 a0_14 a0_15 a0_16 a0_17 a0_18 a0_19 a0_20 a0_21 a0_22 a0_23 a1 some)
def F149_sh : List AK := [.agg [.l (.int .i64), .l (.int .i64), .l (.int .i64), .l (.int .i64), .l (.int .i64), .l (.int .i64), .l (.int .i64), .l (.sl .ro (.int .u8)), .l (.int .i64), .l (.int .i64), .l (.sl .ro rng), .l (.int .i64), .l (.int .i64), .l (.sl .ro (.int .u8)), .l (.sl .ro erl), .l (.bool), .l (.bool), .l (.bool), .l (.int .i64), .l (.int .i64), .l (.int .i64), .l (.int .i64), .l (.int .i64), .l (.int .i64)], .one (.l (.int .i64)), .one (.l (.nil))]
def F149_p (k : Nat) : List Arg → Option CR := cle F149_sh fun x => ⟨F149 k x.1.1 x.1.2.1 x.1.2.2.1 x.1.2.2.2.1 x.1.2.2.2.2.1 x.1.2.2.2.2.2.1 x.1.2.2.2.2.2.2.1 x.1.2.2.2.2.2.2.2.1 x.1.2.2.2.2.2.2.2.2.1 x.1.2.2.2.2.2.2.2.2.2.1 x.1.2.2.2.2.2.2.2.2.2.2.1 x.1.2.2.2.2.2.2.2.2.2.2.2.1 x.1.2.2.2.2.2.2.2.2.2.2.2.2.1 x.1.2.2.2.2.2.2.2.2.2.2.2.2.2.1 x.1.2.2.2.2.2.2.2.2.2.2.2.2.2.2.1 x.1.2.2.2.2.2.2.2.2.2.2.2.2.2.2.2.1 x.1.2.2.2.2.2.2.2.2.2.2.2.2.2.2.2.2.1 x.1.2.2.2.2.2.2.2.2.2.2.2.2.2.2.2.2.2.1 x.1.2.2.2.2.2.2.2.2.2.2.2.2.2.2.2.2.2.2.1 x.1.2.2.2.2.2.2.2.2.2.2.2.2.2.2.2.2.2.2.2.1 x.1.2.2.2.2.2.2.2.2.2.2.2.2.2.2.2.2.2.2.2.2.1 x.1.2.2.2.2.2.2.2.2.2.2.2.2.2.2.2.2.2.2.2.2.2.1 x.1.2.2.2.2.2.2.2.2.2.2.2.2.2.2.2.2.2.2.2.2.2.2.1 x.1.2.2.2.2.2.2.2.2.2.2.2.2.2.2.2.2.2.2.2.2.2.2.2.1 x.2.1, F149_r⟩
theorem F149_q (k : Nat) : ∀ xs cr, F149_p k xs = some cr → Contract Try.prog 149 xs cr := cle_ok fun x => F149_con k _ _ _ _ _ _ _ _ _ _ _ _ _ _ _ _ _ _ _ _ _ _ _ _ _
theorem F149_f : FnOk Try.prog 149 := .of (by kernel_rfl)
/-! 42: loop.example/netstack/laws.eqByteS -/
def F42_h : Nat → Hint
  | 0 => ⟨[(0, .plain), (1, .plain), (5, .plain)], []⟩
  | _ => ⟨[], []⟩
abbrev F42_E (k : Nat) : Env := env noTab F42_h .own [] k
abbrev F42_a (a0 a1 : List (den (.int .u8))) : List Arg := [.one (.l (.s .ro (.int .u8) a0)), .one (.l (.s .ro (.int .u8) a1))]
def F42_r (r : Bool) : A × List (List Leaf) := (.one (.v (.bool r)), [])
def F42_s0 (a0 a1 : List (den (.int .u8))) (x5_0 : Int) : St := ⟨(.one (.s .ro (.int .u8) a0)) :: (.one (.s .ro (.int .u8) a1)) :: dz 3 ((.one (.v (.int .i64 x5_0))) :: dz 20 []), []⟩
def F42_l0_T {β : Type} (k : Nat) (a0 a1 : List (den (.int .u8))) (NX : Int → Option β) (RET : Bool → Option β) (x5_0 : Int) : Option β := cond (decide (x5_0 < ((a0.length : Nat) : Int))) (cond (decide (0 ≤ x5_0)) (cond (decide (x5_0 < ((a0.length : Nat) : Int))) (cond (decide (0 ≤ x5_0)) (cond (decide (x5_0 < ((a1.length : Nat) : Int))) (cond ((atI a0 x5_0) != (atI a1 x5_0)) (RET false) (NX (IntKind.i64.wrap (x5_0 + 1)))) none) none) none) none) (RET true)
def F42_l0 (k : Nat) (a0 a1 : List (den (.int .u8))) : Nat → Int → Option (Bool)
  | 0, _ => none
  | n + 1, x5_0 => F42_l0_T k a0 a1 (fun x5_0 => F42_l0 k a0 a1 n x5_0) some x5_0
theorem F42_l0_rd {β : Type} (k n : Nat) (a0 a1 : List (den (.int .u8))) (x5_0 : Int) (K : A × List (List Leaf) → Option β) :
    loopG (F42_E k) Try.f42 [1, 1, 0, 1, 0] 0 (kontAt (F42_E k) [1, 1, 0, 1, 0] (bodyOf Try.f42) 0 (endC (F42_E k) Try.f42 (F42_a a0 a1) K)) (n + 1) (F42_s0 a0 a1 x5_0) =
    F42_l0_T k a0 a1 (fun x5_0 => loopG (F42_E k) Try.f42 [1, 1, 0, 1, 0] 0 (kontAt (F42_E k) [1, 1, 0, 1, 0] (bodyOf Try.f42) 0 (endC (F42_E k) Try.f42 (F42_a a0 a1) K)) n (F42_s0 a0 a1 x5_0)) (fun r => K (F42_r r)) x5_0 := by kernel_rfl
theorem F42_l0_lp {β : Type} (k : Nat) (a0 a1 : List (den (.int .u8))) (K : A × List (List Leaf) → Option β) (n : Nat) : ∀ (x5_0 : Int), loopG (F42_E k) Try.f42 [1, 1, 0, 1, 0] 0 (kontAt (F42_E k) [1, 1, 0, 1, 0] (bodyOf Try.f42) 0 (endC (F42_E k) Try.f42 (F42_a a0 a1) K)) n (F42_s0 a0 a1 x5_0) =
    (F42_l0 k a0 a1 n x5_0).bind fun r => K (F42_r r) := by
  induction n with
  | zero => intros; rfl
  | succ n ih =>
    intros
    rw [F42_l0_rd, F42_l0]
    simp only [F42_l0_T, bind_cond, Option.bind_assoc, Option.bind_some, Option.bind_none, Option.bind_fun_some, ih]
def F42_T {β : Type} (k : Nat) (a0 a1 : List (den (.int .u8))) (LP0 : Int → Option β) (RET : Bool → Option β) : Option β := cond (((a0.length : Nat) : Int) != ((a1.length : Nat) : Int)) (RET false) (LP0 0)
def F42 (k : Nat) (a0 a1 : List (den (.int .u8))) : Option (Bool) := F42_T k a0 a1 (fun x5_0 => F42_l0 k a0 a1 k x5_0) some
theorem F42_st {β : Type} (k : Nat) (a0 a1 : List (den (.int .u8))) (K : A × List (List Leaf) → Option β) : evalF (F42_E k) Try.f42 (F42_a a0 a1) K =
    F42_T k a0 a1 (fun x5_0 => loopG (F42_E k) Try.f42 [1, 1, 0, 1, 0] 0 (kontAt (F42_E k) [1, 1, 0, 1, 0] (bodyOf Try.f42) 0 (endC (F42_E k) Try.f42 (F42_a a0 a1) K)) k (F42_s0 a0 a1 x5_0)) (fun r => K (F42_r r)) := by kernel_rfl
theorem F42_ev {β : Type} (k : Nat) (a0 a1 : List (den (.int .u8))) (K : A × List (List Leaf) → Option β) : evalF (F42_E k) Try.f42 (F42_a a0 a1) K = (F42 k a0 a1).bind fun r => K (F42_r r) := by
  rw [F42_st, F42]
  simp only [F42_T, bind_cond, Option.bind_assoc, Option.bind_some, Option.bind_none, Option.bind_fun_some, F42_l0_lp]
theorem F42_con (k : Nat) (a0 a1 : List (den (.int .u8))) : Contract Try.prog 42 (F42_a a0 a1) ⟨F42 k a0 a1, F42_r⟩ := con_of (envOk .none _ _ _ _) mixed Try.func42 rfl rfl (F42_ev k a0 a1 some)
def F42_sh : List AK := [.one (.l (.sl .ro (.int .u8))), .one (.l (.sl .ro (.int .u8)))]
def F42_p (k : Nat) : List Arg → Option CR := cle F42_sh fun x => ⟨F42 k x.1 x.2.1, F42_r⟩
theorem F42_q (k : Nat) : ∀ xs cr, F42_p k xs = some cr → Contract Try.prog 42 xs cr := cle_ok fun x => F42_con k _ _
theorem F42_f : FnOk Try.prog 42 := .of (by kernel_rfl)
/-! 139: loop.example/netstack/laws.eqRange -/
abbrev F139_E (k : Nat) : Env := env noTab noHint .own [] k
abbrev F139_a (a0_0 a0_1 a1_0 a1_1 : Int) : List Arg := [.agg [.l (.v (.int .i64 a0_0)), .l (.v (.int .i64 a0_1))], .agg [.l (.v (.int .i64 a1_0)), .l (.v (.int .i64 a1_1))]]
def F139_r (r : Bool) : A × List (List Leaf) := (.one (.v (.bool r)), [])
def F139 (k : Nat) (a0_0 a0_1 a1_0 a1_1 : Int) : Option (Bool) := cond (a0_0 != a1_0) (some false) (cond (a0_1 != a1_1) (some false) (some true))
theorem F139_st {β : Type} (k : Nat) (a0_0 a0_1 a1_0 a1_1 : Int) (K : A × List (List Leaf) → Option β) : evalF (F139_E k) Try.f139 (F139_a a0_0 a0_1 a1_0 a1_1) K =
    cond (a0_0 != a1_0) (K (.one (.v (.bool false)), [])) (cond (a0_1 != a1_1) (K (.one (.v (.bool false)), [])) (K (.one (.v (.bool true)), []))) := by kernel_rfl
theorem F139_ev {β : Type} (k : Nat) (a0_0 a0_1 a1_0 a1_1 : Int) (K : A × List (List Leaf) → Option β) : evalF (F139_E k) Try.f139 (F139_a a0_0 a0_1 a1_0 a1_1) K = (F139 k a0_0 a0_1 a1_0 a1_1).bind fun r => K (F139_r r) := by
  rw [F139_st, F139]
  simp only [F139_r, bind_cond, Option.bind_assoc, Option.bind_some, Option.bind_none, Option.bind_fun_some]
theorem F139_con (k : Nat) (a0_0 a0_1 a1_0 a1_1 : Int) : Contract Try.prog 139 (F139_a a0_0 a0_1 a1_0 a1_1) ⟨F139 k a0_0 a0_1 a1_0 a1_1, F139_r⟩ := con_of (envOk .none _ _ _ _) mixed Try.func139 rfl rfl (F139_ev k a0_0 a0_1 a1_0 a1_1 some)
def F139_sh : List AK := [.agg [.l (.int .i64), .l (.int .i64)], .agg [.l (.int .i64), .l (.int .i64)]]
def F139_p (k : Nat) : List Arg → Option CR := cle F139_sh fun x => ⟨F139 k x.1.1 x.1.2.1 x.2.1.1 x.2.1.2.1, F139_r⟩
theorem F139_q (k : Nat) : ∀ xs cr, F139_p k xs = some cr → Contract Try.prog 139 xs cr := cle_ok fun x => F139_con k _ _ _ _
theorem F139_f : FnOk Try.prog 139 := .of (by kernel_rfl)
/-! 70: loop.example/netstack/laws.eqRangeS -/
def F70_h : Nat → Hint
  | 0 => ⟨[(0, .plain), (1, .plain), (5, .plain)], []⟩
  | _ => ⟨[], []⟩
def F70_t (k : Nat) : Tab := entT 139 (F139_p k) <| noTab
abbrev F70_E (k : Nat) : Env := env (F70_t k) F70_h .own [] k
abbrev F70_a (a0 a1 : List (den rng)) : List Arg := [.one (.l (.s .ro rng a0)), .one (.l (.s .ro rng a1))]
def F70_r (r : Bool) : A × List (List Leaf) := (.one (.v (.bool r)), [])
def F70_s0 (a0 a1 : List (den rng)) (x5_0 : Int) : St := ⟨(.one (.s .ro rng a0)) :: (.one (.s .ro rng a1)) :: dz 3 ((.one (.v (.int .i64 x5_0))) :: dz 21 []), []⟩
def F70_l0_T {β : Type} (k : Nat) (a0 a1 : List (den rng)) (NX : Int → Option β) (RET : Bool → Option β) (x5_0 : Int) : Option β := cond (decide (x5_0 < ((a0.length : Nat) : Int))) (cond (decide (0 ≤ x5_0)) (cond (decide (x5_0 < ((a0.length : Nat) : Int))) (cond (decide (0 ≤ x5_0)) (cond (decide (x5_0 < ((a1.length : Nat) : Int))) ((F139 k ((atI a0 x5_0).1) ((atI a0 x5_0).2) ((atI a1 x5_0).1) ((atI a1 x5_0).2)).bind fun b1 => cond (!b1) (RET false) (NX (IntKind.i64.wrap (x5_0 + 1)))) none) none) none) none) (RET true)
def F70_l0 (k : Nat) (a0 a1 : List (den rng)) : Nat → Int → Option (Bool)
  | 0, _ => none
  | n + 1, x5_0 => F70_l0_T k a0 a1 (fun x5_0 => F70_l0 k a0 a1 n x5_0) some x5_0
theorem F70_l0_rd {β : Type} (k n : Nat) (a0 a1 : List (den rng)) (x5_0 : Int) (K : A × List (List Leaf) → Option β) :
    loopG (F70_E k) Try.f70 [1, 1, 0, 1, 0] 0 (kontAt (F70_E k) [1, 1, 0, 1, 0] (bodyOf Try.f70) 0 (endC (F70_E k) Try.f70 (F70_a a0 a1) K)) (n + 1) (F70_s0 a0 a1 x5_0) =
    F70_l0_T k a0 a1 (fun x5_0 => loopG (F70_E k) Try.f70 [1, 1, 0, 1, 0] 0 (kontAt (F70_E k) [1, 1, 0, 1, 0] (bodyOf Try.f70) 0 (endC (F70_E k) Try.f70 (F70_a a0 a1) K)) n (F70_s0 a0 a1 x5_0)) (fun r => K (F70_r r)) x5_0 := by kernel_rfl
theorem F70_l0_lp {β : Type} (k : Nat) (a0 a1 : List (den rng)) (K : A × List (List Leaf) → Option β) (n : Nat) : ∀ (x5_0 : Int), loopG (F70_E k) Try.f70 [1, 1, 0, 1, 0] 0 (kontAt (F70_E k) [1, 1, 0, 1, 0] (bodyOf Try.f70) 0 (endC (F70_E k) Try.f70 (F70_a a0 a1) K)) n (F70_s0 a0 a1 x5_0) =
    (F70_l0 k a0 a1 n x5_0).bind fun r => K (F70_r r) := by
  induction n with
  | zero => intros; rfl
  | succ n ih =>
    intros
    rw [F70_l0_rd, F70_l0]
    simp only [F70_l0_T, bind_cond, Option.bind_assoc, Option.bind_some, Option.bind_none, Option.bind_fun_some, ih]
def F70_T {β : Type} (k : Nat) (a0 a1 : List (den rng)) (LP0 : Int → Option β) (RET : Bool → Option β) : Option β := cond (((a0.length : Nat) : Int) != ((a1.length : Nat) : Int)) (RET false) (LP0 0)
def F70 (k : Nat) (a0 a1 : List (den rng)) : Option (Bool) := F70_T k a0 a1 (fun x5_0 => F70_l0 k a0 a1 k x5_0) some
theorem F70_st {β : Type} (k : Nat) (a0 a1 : List (den rng)) (K : A × List (List Leaf) → Option β) : evalF (F70_E k) Try.f70 (F70_a a0 a1) K =
    F70_T k a0 a1 (fun x5_0 => loopG (F70_E k) Try.f70 [1, 1, 0, 1, 0] 0 (kontAt (F70_E k) [1, 1, 0, 1, 0] (bodyOf Try.f70) 0 (endC (F70_E k) Try.f70 (F70_a a0 a1) K)) k (F70_s0 a0 a1 x5_0)) (fun r => K (F70_r r)) := by kernel_rfl
theorem F70_ev {β : Type} (k : Nat) (a0 a1 : List (den rng)) (K : A × List (List Leaf) → Option β) : evalF (F70_E k) Try.f70 (F70_a a0 a1) K = (F70 k a0 a1).bind fun r => K (F70_r r) := by
  rw [F70_st, F70]
  simp only [F70_T, bind_cond, Option.bind_assoc, Option.bind_some, Option.bind_none, Option.bind_fun_some, F70_l0_lp]
theorem F70_tOk (k : Nat) : TabFn Try.prog (F70_t k) := .ent (F139_q k) F139_f (.none)
theorem F70_con (k : Nat) (a0 a1 : List (den rng)) : Contract Try.prog 70 (F70_a a0 a1) ⟨F70 k a0 a1, F70_r⟩ := con_of (envOk (F70_tOk k) _ _ _ _) mixed Try.func70 rfl rfl (F70_ev k a0 a1 some)
def F70_sh : List AK := [.one (.l (.sl .ro rng)), .one (.l (.sl .ro rng))]
def F70_p (k : Nat) : List Arg → Option CR := cle F70_sh fun x => ⟨F70 k x.1 x.2.1, F70_r⟩
theorem F70_q (k : Nat) : ∀ xs cr, F70_p k xs = some cr → Contract Try.prog 70 xs cr := cle_ok fun x => F70_con k _ _
theorem F70_f : FnOk Try.prog 70 := .of (by kernel_rfl)
/-! 88: loop.example/netstack/laws.eqMouth -/
def F88_t (k : Nat) : Tab := entT 42 (F42_p k) <| entT 70 (F70_p k) <| noTab
abbrev F88_E (k : Nat) : Env := env (F88_t k) noHint .own [] k
abbrev F88_a (a0_0 : Int) (a0_1 : List (den (.int .u8))) (a0_2 a0_3 : Int) (a0_4 : List (den rng)) (a1_0 : Int) (a1_1 : List (den (.int .u8))) (a1_2 a1_3 : Int) (a1_4 : List (den rng)) : List Arg := [.agg [.l (.v (.int .i64 a0_0)), .l (.s .ro (.int .u8) a0_1), .l (.v (.int .i64 a0_2)), .l (.v (.int .i64 a0_3)), .l (.s .ro rng a0_4)], .agg [.l (.v (.int .i64 a1_0)), .l (.s .ro (.int .u8) a1_1), .l (.v (.int .i64 a1_2)), .l (.v (.int .i64 a1_3)), .l (.s .ro rng a1_4)]]
def F88_r (r : Bool) : A × List (List Leaf) := (.one (.v (.bool r)), [])
def F88_T {β : Type} (k : Nat) (a0_0 : Int) (a0_1 : List (den (.int .u8))) (a0_2 a0_3 : Int) (a0_4 : List (den rng)) (a1_0 : Int) (a1_1 : List (den (.int .u8))) (a1_2 a1_3 : Int) (a1_4 : List (den rng)) (RET : Bool → Option β) : Option β := cond (a0_0 != a1_0) (RET false) ((F42 k a0_1 a1_1).bind fun b1 => cond (!b1) (RET false) (cond (a0_2 != a1_2) (RET false) (cond (a0_3 != a1_3) (RET false) ((F70 k a0_4 a1_4).bind fun b2 => cond (!b2) (RET false) (RET true)))))
def F88 (k : Nat) (a0_0 : Int) (a0_1 : List (den (.int .u8))) (a0_2 a0_3 : Int) (a0_4 : List (den rng)) (a1_0 : Int) (a1_1 : List (den (.int .u8))) (a1_2 a1_3 : Int) (a1_4 : List (den rng)) : Option (Bool) := F88_T k a0_0 a0_1 a0_2 a0_3 a0_4 a1_0 a1_1 a1_2 a1_3 a1_4 some
theorem F88_st {β : Type} (k : Nat) (a0_0 : Int) (a0_1 : List (den (.int .u8))) (a0_2 a0_3 : Int) (a0_4 : List (den rng)) (a1_0 : Int) (a1_1 : List (den (.int .u8))) (a1_2 a1_3 : Int) (a1_4 : List (den rng)) (K : A × List (List Leaf) → Option β) : evalF (F88_E k) Try.f88 (F88_a a0_0 a0_1 a0_2 a0_3 a0_4 a1_0 a1_1 a1_2 a1_3 a1_4) K =
    F88_T k a0_0 a0_1 a0_2 a0_3 a0_4 a1_0 a1_1 a1_2 a1_3 a1_4 (fun r => K (F88_r r)) := by kernel_rfl
theorem F88_ev {β : Type} (k : Nat) (a0_0 : Int) (a0_1 : List (den (.int .u8))) (a0_2 a0_3 : Int) (a0_4 : List (den rng)) (a1_0 : Int) (a1_1 : List (den (.int .u8))) (a1_2 a1_3 : Int) (a1_4 : List (den rng)) (K : A × List (List Leaf) → Option β) : evalF (F88_E k) Try.f88 (F88_a a0_0 a0_1 a0_2 a0_3 a0_4 a1_0 a1_1 a1_2 a1_3 a1_4) K = (F88 k a0_0 a0_1 a0_2 a0_3 a0_4 a1_0 a1_1 a1_2 a1_3 a1_4).bind fun r => K (F88_r r) := by
  rw [F88_st, F88]
  simp only [F88_T, bind_cond, Option.bind_assoc, Option.bind_some, Option.bind_none, Option.bind_fun_some]
theorem F88_tOk (k : Nat) : TabFn Try.prog (F88_t k) := .ent (F42_q k) F42_f (.ent (F70_q k) F70_f (.none))
theorem F88_con (k : Nat) (a0_0 : Int) (a0_1 : List (den (.int .u8))) (a0_2 a0_3 : Int) (a0_4 : List (den rng)) (a1_0 : Int) (a1_1 : List (den (.int .u8))) (a1_2 a1_3 : Int) (a1_4 : List (den rng)) : Contract Try.prog 88 (F88_a a0_0 a0_1 a0_2 a0_3 a0_4 a1_0 a1_1 a1_2 a1_3 a1_4) ⟨F88 k a0_0 a0_1 a0_2 a0_3 a0_4 a1_0 a1_1 a1_2 a1_3 a1_4, F88_r⟩ := con_of (envOk (F88_tOk k) _ _ _ _) mixed Try.func88 rfl rfl (F88_ev k a0_0 a0_1 a0_2 a0_3 a0_4 a1_0 a1_1 a1_2 a1_3 a1_4 some)
def F88_sh : List AK := [.agg [.l (.int .i64), .l (.sl .ro (.int .u8)), .l (.int .i64), .l (.int .i64), .l (.sl .ro rng)], .agg [.l (.int .i64), .l (.sl .ro (.int .u8)), .l (.int .i64), .l (.int .i64), .l (.sl .ro rng)]]
def F88_p (k : Nat) : List Arg → Option CR := cle F88_sh fun x => ⟨F88 k x.1.1 x.1.2.1 x.1.2.2.1 x.1.2.2.2.1 x.1.2.2.2.2.1 x.2.1.1 x.2.1.2.1 x.2.1.2.2.1 x.2.1.2.2.2.1 x.2.1.2.2.2.2.1, F88_r⟩
theorem F88_q (k : Nat) : ∀ xs cr, F88_p k xs = some cr → Contract Try.prog 88 xs cr := cle_ok fun x => F88_con k _ _ _ _ _ _ _ _ _ _
theorem F88_f : FnOk Try.prog 88 := .of (by kernel_rfl)
/-! 173: loop.example/netstack/laws.eqEarly -/
abbrev F173_E (k : Nat) : Env := env noTab noHint .own [] k
abbrev F173_a (a0_0 a0_1 a1_0 a1_1 : Int) : List Arg := [.agg [.l (.v (.int .i64 a0_0)), .l (.v (.int .u8 a0_1))], .agg [.l (.v (.int .i64 a1_0)), .l (.v (.int .u8 a1_1))]]
def F173_r (r : Bool) : A × List (List Leaf) := (.one (.v (.bool r)), [])
def F173 (k : Nat) (a0_0 a0_1 a1_0 a1_1 : Int) : Option (Bool) := cond (a0_0 != a1_0) (some false) (cond (a0_1 != a1_1) (some false) (some true))
theorem F173_st {β : Type} (k : Nat) (a0_0 a0_1 a1_0 a1_1 : Int) (K : A × List (List Leaf) → Option β) : evalF (F173_E k) Try.f173 (F173_a a0_0 a0_1 a1_0 a1_1) K =
    cond (a0_0 != a1_0) (K (.one (.v (.bool false)), [])) (cond (a0_1 != a1_1) (K (.one (.v (.bool false)), [])) (K (.one (.v (.bool true)), []))) := by kernel_rfl
theorem F173_ev {β : Type} (k : Nat) (a0_0 a0_1 a1_0 a1_1 : Int) (K : A × List (List Leaf) → Option β) : evalF (F173_E k) Try.f173 (F173_a a0_0 a0_1 a1_0 a1_1) K = (F173 k a0_0 a0_1 a1_0 a1_1).bind fun r => K (F173_r r) := by
  rw [F173_st, F173]
  simp only [F173_r, bind_cond, Option.bind_assoc, Option.bind_some, Option.bind_none, Option.bind_fun_some]
theorem F173_con (k : Nat) (a0_0 a0_1 a1_0 a1_1 : Int) : Contract Try.prog 173 (F173_a a0_0 a0_1 a1_0 a1_1) ⟨F173 k a0_0 a0_1 a1_0 a1_1, F173_r⟩ := con_of (envOk .none _ _ _ _) mixed Try.func173 rfl rfl (F173_ev k a0_0 a0_1 a1_0 a1_1 some)
def F173_sh : List AK := [.agg [.l (.int .i64), .l (.int .u8)], .agg [.l (.int .i64), .l (.int .u8)]]
def F173_p (k : Nat) : List Arg → Option CR := cle F173_sh fun x => ⟨F173 k x.1.1 x.1.2.1 x.2.1.1 x.2.1.2.1, F173_r⟩
theorem F173_q (k : Nat) : ∀ xs cr, F173_p k xs = some cr → Contract Try.prog 173 xs cr := cle_ok fun x => F173_con k _ _ _ _
theorem F173_f : FnOk Try.prog 173 := .of (by kernel_rfl)
/-! 150: loop.example/netstack/laws.eqEarlyS -/
def F150_h : Nat → Hint
  | 0 => ⟨[(0, .plain), (1, .plain), (5, .plain)], []⟩
  | _ => ⟨[], []⟩
def F150_t (k : Nat) : Tab := entT 173 (F173_p k) <| noTab
abbrev F150_E (k : Nat) : Env := env (F150_t k) F150_h .own [] k
abbrev F150_a (a0 a1 : List (den erl)) : List Arg := [.one (.l (.s .ro erl a0)), .one (.l (.s .ro erl a1))]
def F150_r (r : Bool) : A × List (List Leaf) := (.one (.v (.bool r)), [])
def F150_s0 (a0 a1 : List (den erl)) (x5_0 : Int) : St := ⟨(.one (.s .ro erl a0)) :: (.one (.s .ro erl a1)) :: dz 3 ((.one (.v (.int .i64 x5_0))) :: dz 21 []), []⟩
def F150_l0_T {β : Type} (k : Nat) (a0 a1 : List (den erl)) (NX : Int → Option β) (RET : Bool → Option β) (x5_0 : Int) : Option β := cond (decide (x5_0 < ((a0.length : Nat) : Int))) (cond (decide (0 ≤ x5_0)) (cond (decide (x5_0 < ((a0.length : Nat) : Int))) (cond (decide (0 ≤ x5_0)) (cond (decide (x5_0 < ((a1.length : Nat) : Int))) ((F173 k ((atI a0 x5_0).1) ((atI a0 x5_0).2) ((atI a1 x5_0).1) ((atI a1 x5_0).2)).bind fun b1 => cond (!b1) (RET false) (NX (IntKind.i64.wrap (x5_0 + 1)))) none) none) none) none) (RET true)
def F150_l0 (k : Nat) (a0 a1 : List (den erl)) : Nat → Int → Option (Bool)
  | 0, _ => none
  | n + 1, x5_0 => F150_l0_T k a0 a1 (fun x5_0 => F150_l0 k a0 a1 n x5_0) some x5_0
theorem F150_l0_rd {β : Type} (k n : Nat) (a0 a1 : List (den erl)) (x5_0 : Int) (K : A × List (List Leaf) → Option β) :
    loopG (F150_E k) Try.f150 [1, 1, 0, 1, 0] 0 (kontAt (F150_E k) [1, 1, 0, 1, 0] (bodyOf Try.f150) 0 (endC (F150_E k) Try.f150 (F150_a a0 a1) K)) (n + 1) (F150_s0 a0 a1 x5_0) =
    F150_l0_T k a0 a1 (fun x5_0 => loopG (F150_E k) Try.f150 [1, 1, 0, 1, 0] 0 (kontAt (F150_E k) [1, 1, 0, 1, 0] (bodyOf Try.f150) 0 (endC (F150_E k) Try.f150 (F150_a a0 a1) K)) n (F150_s0 a0 a1 x5_0)) (fun r => K (F150_r r)) x5_0 := by kernel_rfl
theorem F150_l0_lp {β : Type} (k : Nat) (a0 a1 : List (den erl)) (K : A × List (List Leaf) → Option β) (n : Nat) : ∀ (x5_0 : Int), loopG (F150_E k) Try.f150 [1, 1, 0, 1, 0] 0 (kontAt (F150_E k) [1, 1, 0, 1, 0] (bodyOf Try.f150) 0 (endC (F150_E k) Try.f150 (F150_a a0 a1) K)) n (F150_s0 a0 a1 x5_0) =
    (F150_l0 k a0 a1 n x5_0).bind fun r => K (F150_r r) := by
  induction n with
  | zero => intros; rfl
  | succ n ih =>
    intros
    rw [F150_l0_rd, F150_l0]
    simp only [F150_l0_T, bind_cond, Option.bind_assoc, Option.bind_some, Option.bind_none, Option.bind_fun_some, ih]
def F150_T {β : Type} (k : Nat) (a0 a1 : List (den erl)) (LP0 : Int → Option β) (RET : Bool → Option β) : Option β := cond (((a0.length : Nat) : Int) != ((a1.length : Nat) : Int)) (RET false) (LP0 0)
def F150 (k : Nat) (a0 a1 : List (den erl)) : Option (Bool) := F150_T k a0 a1 (fun x5_0 => F150_l0 k a0 a1 k x5_0) some
theorem F150_st {β : Type} (k : Nat) (a0 a1 : List (den erl)) (K : A × List (List Leaf) → Option β) : evalF (F150_E k) Try.f150 (F150_a a0 a1) K =
    F150_T k a0 a1 (fun x5_0 => loopG (F150_E k) Try.f150 [1, 1, 0, 1, 0] 0 (kontAt (F150_E k) [1, 1, 0, 1, 0] (bodyOf Try.f150) 0 (endC (F150_E k) Try.f150 (F150_a a0 a1) K)) k (F150_s0 a0 a1 x5_0)) (fun r => K (F150_r r)) := by kernel_rfl
theorem F150_ev {β : Type} (k : Nat) (a0 a1 : List (den erl)) (K : A × List (List Leaf) → Option β) : evalF (F150_E k) Try.f150 (F150_a a0 a1) K = (F150 k a0 a1).bind fun r => K (F150_r r) := by
  rw [F150_st, F150]
  simp only [F150_T, bind_cond, Option.bind_assoc, Option.bind_some, Option.bind_none, Option.bind_fun_some, F150_l0_lp]
theorem F150_tOk (k : Nat) : TabFn Try.prog (F150_t k) := .ent (F173_q k) F173_f (.none)
theorem F150_con (k : Nat) (a0 a1 : List (den erl)) : Contract Try.prog 150 (F150_a a0 a1) ⟨F150 k a0 a1, F150_r⟩ := con_of (envOk (F150_tOk k) _ _ _ _) mixed Try.func150 rfl rfl (F150_ev k a0 a1 some)
def F150_sh : List AK := [.one (.l (.sl .ro erl)), .one (.l (.sl .ro erl))]
def F150_p (k : Nat) : List Arg → Option CR := cle F150_sh fun x => ⟨F150 k x.1 x.2.1, F150_r⟩
theorem F150_q (k : Nat) : ∀ xs cr, F150_p k xs = some cr → Contract Try.prog 150 xs cr := cle_ok fun x => F150_con k _ _
theorem F150_f : FnOk Try.prog 150 := .of (by kernel_rfl)
/-! 89: loop.example/netstack/laws.eqEar -/
def F89_t (k : Nat) : Tab := entT 42 (F42_p k) <| entT 150 (F150_p k) <| noTab
abbrev F89_E (k : Nat) : Env := env (F89_t k) noHint .own [] k
abbrev F89_a (a0_0 a0_1 : Int) (a0_2 : List (den (.int .u8))) (a0_3 : List (den erl)) (a1_0 a1_1 : Int) (a1_2 : List (den (.int .u8))) (a1_3 : List (den erl)) : List Arg := [.agg [.l (.v (.int .i64 a0_0)), .l (.v (.int .i64 a0_1)), .l (.s .ro (.int .u8) a0_2), .l (.s .ro erl a0_3)], .agg [.l (.v (.int .i64 a1_0)), .l (.v (.int .i64 a1_1)), .l (.s .ro (.int .u8) a1_2), .l (.s .ro erl a1_3)]]
def F89_r (r : Bool) : A × List (List Leaf) := (.one (.v (.bool r)), [])
def F89_T {β : Type} (k : Nat) (a0_0 a0_1 : Int) (a0_2 : List (den (.int .u8))) (a0_3 : List (den erl)) (a1_0 a1_1 : Int) (a1_2 : List (den (.int .u8))) (a1_3 : List (den erl)) (RET : Bool → Option β) : Option β := cond (a0_0 != a1_0) (RET false) (cond (a0_1 != a1_1) (RET false) ((F42 k a0_2 a1_2).bind fun b1 => cond (!b1) (RET false) ((F150 k a0_3 a1_3).bind fun b2 => cond (!b2) (RET false) (RET true))))
def F89 (k : Nat) (a0_0 a0_1 : Int) (a0_2 : List (den (.int .u8))) (a0_3 : List (den erl)) (a1_0 a1_1 : Int) (a1_2 : List (den (.int .u8))) (a1_3 : List (den erl)) : Option (Bool) := F89_T k a0_0 a0_1 a0_2 a0_3 a1_0 a1_1 a1_2 a1_3 some
theorem F89_st {β : Type} (k : Nat) (a0_0 a0_1 : Int) (a0_2 : List (den (.int .u8))) (a0_3 : List (den erl)) (a1_0 a1_1 : Int) (a1_2 : List (den (.int .u8))) (a1_3 : List (den erl)) (K : A × List (List Leaf) → Option β) : evalF (F89_E k) Try.f89 (F89_a a0_0 a0_1 a0_2 a0_3 a1_0 a1_1 a1_2 a1_3) K =
    F89_T k a0_0 a0_1 a0_2 a0_3 a1_0 a1_1 a1_2 a1_3 (fun r => K (F89_r r)) := by kernel_rfl
theorem F89_ev {β : Type} (k : Nat) (a0_0 a0_1 : Int) (a0_2 : List (den (.int .u8))) (a0_3 : List (den erl)) (a1_0 a1_1 : Int) (a1_2 : List (den (.int .u8))) (a1_3 : List (den erl)) (K : A × List (List Leaf) → Option β) : evalF (F89_E k) Try.f89 (F89_a a0_0 a0_1 a0_2 a0_3 a1_0 a1_1 a1_2 a1_3) K = (F89 k a0_0 a0_1 a0_2 a0_3 a1_0 a1_1 a1_2 a1_3).bind fun r => K (F89_r r) := by
  rw [F89_st, F89]
  simp only [F89_T, bind_cond, Option.bind_assoc, Option.bind_some, Option.bind_none, Option.bind_fun_some]
theorem F89_tOk (k : Nat) : TabFn Try.prog (F89_t k) := .ent (F42_q k) F42_f (.ent (F150_q k) F150_f (.none))
theorem F89_con (k : Nat) (a0_0 a0_1 : Int) (a0_2 : List (den (.int .u8))) (a0_3 : List (den erl)) (a1_0 a1_1 : Int) (a1_2 : List (den (.int .u8))) (a1_3 : List (den erl)) : Contract Try.prog 89 (F89_a a0_0 a0_1 a0_2 a0_3 a1_0 a1_1 a1_2 a1_3) ⟨F89 k a0_0 a0_1 a0_2 a0_3 a1_0 a1_1 a1_2 a1_3, F89_r⟩ := con_of (envOk (F89_tOk k) _ _ _ _) mixed Try.func89 rfl rfl (F89_ev k a0_0 a0_1 a0_2 a0_3 a1_0 a1_1 a1_2 a1_3 some)
def F89_sh : List AK := [.agg [.l (.int .i64), .l (.int .i64), .l (.sl .ro (.int .u8)), .l (.sl .ro erl)], .agg [.l (.int .i64), .l (.int .i64), .l (.sl .ro (.int .u8)), .l (.sl .ro erl)]]
def F89_p (k : Nat) : List Arg → Option CR := cle F89_sh fun x => ⟨F89 k x.1.1 x.1.2.1 x.1.2.2.1 x.1.2.2.2.1 x.2.1.1 x.2.1.2.1 x.2.1.2.2.1 x.2.1.2.2.2.1, F89_r⟩
theorem F89_q (k : Nat) : ∀ xs cr, F89_p k xs = some cr → Contract Try.prog 89 xs cr := cle_ok fun x => F89_con k _ _ _ _ _ _ _ _
theorem F89_f : FnOk Try.prog 89 := .of (by kernel_rfl)
/-! 90: loop.example/netstack/laws.eqClock -/
abbrev F90_E (k : Nat) : Env := env noTab noHint .own [] k
abbrev F90_a (a0_0 a0_1 a0_2 a1_0 a1_1 a1_2 : Int) : List Arg := [.agg [.l (.v (.int .i64 a0_0)), .l (.v (.int .i64 a0_1)), .l (.v (.int .i64 a0_2))], .agg [.l (.v (.int .i64 a1_0)), .l (.v (.int .i64 a1_1)), .l (.v (.int .i64 a1_2))]]
def F90_r (r : Bool) : A × List (List Leaf) := (.one (.v (.bool r)), [])
def F90 (k : Nat) (a0_0 a0_1 a0_2 a1_0 a1_1 a1_2 : Int) : Option (Bool) := cond (a0_0 != a1_0) (some false) (cond (a0_1 != a1_1) (some false) (cond (a0_2 != a1_2) (some false) (some true)))
theorem F90_st {β : Type} (k : Nat) (a0_0 a0_1 a0_2 a1_0 a1_1 a1_2 : Int) (K : A × List (List Leaf) → Option β) : evalF (F90_E k) Try.f90 (F90_a a0_0 a0_1 a0_2 a1_0 a1_1 a1_2) K =
    cond (a0_0 != a1_0) (K (.one (.v (.bool false)), [])) (cond (a0_1 != a1_1) (K (.one (.v (.bool false)), [])) (cond (a0_2 != a1_2) (K (.one (.v (.bool false)), [])) (K (.one (.v (.bool true)), [])))) := by kernel_rfl
theorem F90_ev {β : Type} (k : Nat) (a0_0 a0_1 a0_2 a1_0 a1_1 a1_2 : Int) (K : A × List (List Leaf) → Option β) : evalF (F90_E k) Try.f90 (F90_a a0_0 a0_1 a0_2 a1_0 a1_1 a1_2) K = (F90 k a0_0 a0_1 a0_2 a1_0 a1_1 a1_2).bind fun r => K (F90_r r) := by
  rw [F90_st, F90]
  simp only [F90_r, bind_cond, Option.bind_assoc, Option.bind_some, Option.bind_none, Option.bind_fun_some]
theorem F90_con (k : Nat) (a0_0 a0_1 a0_2 a1_0 a1_1 a1_2 : Int) : Contract Try.prog 90 (F90_a a0_0 a0_1 a0_2 a1_0 a1_1 a1_2) ⟨F90 k a0_0 a0_1 a0_2 a1_0 a1_1 a1_2, F90_r⟩ := con_of (envOk .none _ _ _ _) mixed Try.func90 rfl rfl (F90_ev k a0_0 a0_1 a0_2 a1_0 a1_1 a1_2 some)
def F90_sh : List AK := [.agg [.l (.int .i64), .l (.int .i64), .l (.int .i64)], .agg [.l (.int .i64), .l (.int .i64), .l (.int .i64)]]
def F90_p (k : Nat) : List Arg → Option CR := cle F90_sh fun x => ⟨F90 k x.1.1 x.1.2.1 x.1.2.2.1 x.2.1.1 x.2.1.2.1 x.2.1.2.2.1, F90_r⟩
theorem F90_q (k : Nat) : ∀ xs cr, F90_p k xs = some cr → Contract Try.prog 90 xs cr := cle_ok fun x => F90_con k _ _ _ _ _ _
theorem F90_f : FnOk Try.prog 90 := .of (by kernel_rfl)
/-! 23: loop.example/netstack/laws.eqEnd -/
def F23_t (k : Nat) : Tab := entT 88 (F88_p k) <| entT 89 (F89_p k) <| entT 90 (F90_p k) <| noTab
abbrev F23_E (k : Nat) : Env := env (F23_t k) noHint .own [] k
abbrev F23_a (a0_0 a0_1 a0_2 a0_3 a0_4 a0_5 a0_6 : Int) (a0_7 : List (den (.int .u8))) (a0_8 a0_9 : Int) (a0_10 : List (den rng)) (a0_11 a0_12 : Int) (a0_13 : List (den (.int .u8))) (a0_14 : List (den erl)) (a0_15 a0_16 a0_17 : Bool) (a0_18 a0_19 a0_20 a0_21 a0_22 a0_23 a1_0 a1_1 a1_2 a1_3 a1_4 a1_5 a1_6 : Int) (a1_7 : List (den (.int .u8))) (a1_8 a1_9 : Int) (a1_10 : List (den rng)) (a1_11 a1_12 : Int) (a1_13 : List (den (.int .u8))) (a1_14 : List (den erl)) (a1_15 a1_16 a1_17 : Bool) (a1_18 a1_19 a1_20 a1_21 a1_22 a1_23 : Int) : List Arg := [.agg [.l (.v (.int .i64 a0_0)), .l (.v (.int .i64 a0_1)), .l (.v (.int .i64 a0_2)), .l (.v (.int .i64 a0_3)), .l (.v (.int .i64 a0_4)), .l (.v (.int .i64 a0_5)), .l (.v (.int .i64 a0_6)), .l (.s .ro (.int .u8) a0_7), .l (.v (.int .i64 a0_8)), .l (.v (.int .i64 a0_9)), .l (.s .ro rng a0_10), .l (.v (.int .i64 a0_11)), .l (.v (.int .i64 a0_12)), .l (.s .ro (.int .u8) a0_13), .l (.s .ro erl a0_14), .l (.v (.bool a0_15)), .l (.v (.bool a0_16)), .l (.v (.bool a0_17)), .l (.v (.int .i64 a0_18)), .l (.v (.int .i64 a0_19)), .l (.v (.int .i64 a0_20)), .l (.v (.int .i64 a0_21)), .l (.v (.int .i64 a0_22)), .l (.v (.int .i64 a0_23))], .agg [.l (.v (.int .i64 a1_0)), .l (.v (.int .i64 a1_1)), .l (.v (.int .i64 a1_2)), .l (.v (.int .i64 a1_3)), .l (.v (.int .i64 a1_4)), .l (.v (.int .i64 a1_5)), .l (.v (.int .i64 a1_6)), .l (.s .ro (.int .u8) a1_7), .l (.v (.int .i64 a1_8)), .l (.v (.int .i64 a1_9)), .l (.s .ro rng a1_10), .l (.v (.int .i64 a1_11)), .l (.v (.int .i64 a1_12)), .l (.s .ro (.int .u8) a1_13), .l (.s .ro erl a1_14), .l (.v (.bool a1_15)), .l (.v (.bool a1_16)), .l (.v (.bool a1_17)), .l (.v (.int .i64 a1_18)), .l (.v (.int .i64 a1_19)), .l (.v (.int .i64 a1_20)), .l (.v (.int .i64 a1_21)), .l (.v (.int .i64 a1_22)), .l (.v (.int .i64 a1_23))]]
def F23_r (r : Bool) : A × List (List Leaf) := (.one (.v (.bool r)), [])
def F23_T {β : Type} (k : Nat) (a0_0 a0_1 a0_2 a0_3 a0_4 a0_5 a0_6 : Int) (a0_7 : List (den (.int .u8))) (a0_8 a0_9 : Int) (a0_10 : List (den rng)) (a0_11 a0_12 : Int) (a0_13 : List (den (.int .u8))) (a0_14 : List (den erl)) (a0_15 a0_16 a0_17 : Bool) (a0_18 a0_19 a0_20 a0_21 a0_22 a0_23 a1_0 a1_1 a1_2 a1_3 a1_4 a1_5 a1_6 : Int) (a1_7 : List (den (.int .u8))) (a1_8 a1_9 : Int) (a1_10 : List (den rng)) (a1_11 a1_12 : Int) (a1_13 : List (den (.int .u8))) (a1_14 : List (den erl)) (a1_15 a1_16 a1_17 : Bool) (a1_18 a1_19 a1_20 a1_21 a1_22 a1_23 : Int) (RET : Bool → Option β) : Option β := cond (a0_0 != a1_0) (RET false) (cond (a0_1 != a1_1) (RET false) (cond (a0_2 != a1_2) (RET false) (cond (a0_3 != a1_3) (RET false) (cond (a0_4 != a1_4) (RET false) (cond (a0_5 != a1_5) (RET false) ((F88 k a0_6 a0_7 a0_8 a0_9 a0_10 a1_6 a1_7 a1_8 a1_9 a1_10).bind fun b1 => cond (!b1) (RET false) ((F89 k a0_11 a0_12 a0_13 a0_14 a1_11 a1_12 a1_13 a1_14).bind fun b2 => cond (!b2) (RET false) (cond (!(a0_15 == a1_15)) (RET false) (cond (!(a0_16 == a1_16)) (RET false) (cond (!(a0_17 == a1_17)) (RET false) (cond (a0_18 != a1_18) (RET false) (cond (a0_19 != a1_19) (RET false) (cond (a0_20 != a1_20) (RET false) ((F90 k a0_21 a0_22 a0_23 a1_21 a1_22 a1_23).bind fun b3 => cond (!b3) (RET false) (RET true)))))))))))))))
def F23 (k : Nat) (a0_0 a0_1 a0_2 a0_3 a0_4 a0_5 a0_6 : Int) (a0_7 : List (den (.int .u8))) (a0_8 a0_9 : Int) (a0_10 : List (den rng)) (a0_11 a0_12 : Int) (a0_13 : List (den (.int .u8))) (a0_14 : List (den erl)) (a0_15 a0_16 a0_17 : Bool) (a0_18 a0_19 a0_20 a0_21 a0_22 a0_23 a1_0 a1_1 a1_2 a1_3 a1_4 a1_5 a1_6 : Int) (a1_7 : List (den (.int .u8))) (a1_8 a1_9 : Int) (a1_10 : List (den rng)) (a1_11 a1_12 : Int) (a1_13 : List (den (.int .u8))) (a1_14 : List (den erl)) (a1_15 a1_16 a1_17 : Bool) (a1_18 a1_19 a1_20 a1_21 a1_22 a1_23 : Int) : Option (Bool) := F23_T k a0_0 a0_1 a0_2 a0_3 a0_4 a0_5 a0_6 a0_7 a0_8 a0_9 a0_10 a0_11 a0_12 a0_13 a0_14 a0_15 a0_16 a0_17 a0_18 a0_19 a0_20 a0_21 a0_22 a0_23 a1_0 a1_1 a1_2 a1_3 a1_4 a1_5 a1_6 a1_7 a1_8 a1_9 a1_10 a1_11 a1_12 a1_13 a1_14 a1_15 a1_16 a1_17 a1_18 a1_19 a1_20 a1_21 a1_22 a1_23 some
theorem F23_st {β : Type} (k : Nat) (a0_0 a0_1 a0_2 a0_3 a0_4 a0_5 a0_6 : Int) (a0_7 : List (den (.int .u8))) (a0_8 a0_9 : Int) (a0_10 : List (den rng)) (a0_11 a0_12 : Int) (a0_13 : List (den (.int .u8))) (a0_14 : List (den erl)) (a0_15 a0_16 a0_17 : Bool) (a0_18 a0_19 a0_20 a0_21 a0_22 a0_23 a1_0 a1_1 a1_2 a1_3 a1_4 a1_5 a1_6 : Int) (a1_7 : List (den (.int .u8))) (a1_8 a1_9 : Int) (a1_10 : List (den rng)) (a1_11 a1_12 : Int) (a1_13 : List (den (.int .u8))) (a1_14 : List (den erl)) (a1_15 a1_16 a1_17 : Bool) (a1_18 a1_19 a1_20 a1_21 a1_22 a1_23 : Int) (K : A × List (List Leaf) → Option β) : evalF (F23_E k) Try.f23 (F23_a a0_0 a0_1 a0_2 a0_3 a0_4 a0_5 a0_6 a0_7 a0_8 a0_9 a0_10 a0_11 a0_12 a0_13 a0_14 a0_15 a0_16 a0_17 a0_18 a0_19 a0_20 a0_21 a0_22 a0_23 a1_0 a1_1 a1_2 a1_3 a1_4 a1_5 a1_6 a1_7 a1_8 a1_9 a1_10 a1_11 a1_12 a1_13 a1_14 a1_15 a1_16 a1_17 a1_18 a1_19 a1_20 a1_21 a1_22 a1_23) K =
    F23_T k a0_0 a0_1 a0_2 a0_3 a0_4 a0_5 a0_6 a0_7 a0_8 a0_9 a0_10 a0_11 a0_12 a0_13 a0_14 a0_15 a0_16 a0_17 a0_18 a0_19 a0_20 a0_21 a0_22 a0_23 a1_0 a1_1 a1_2 a1_3 a1_4 a1_5 a1_6 a1_7 a1_8 a1_9 a1_10 a1_11 a1_12 a1_13 a1_14 a1_15 a1_16 a1_17 a1_18 a1_19 a1_20 a1_21 a1_22 a1_23 (fun r => K (F23_r r)) := by kernel_rfl
theorem F23_ev {β : Type} (k : Nat) (a0_0 a0_1 a0_2 a0_3 a0_4 a0_5 a0_6 : Int) (a0_7 : List (den (.int .u8))) (a0_8 a0_9 : Int) (a0_10 : List (den rng)) (a0_11 a0_12 : Int) (a0_13 : List (den (.int .u8))) (a0_14 : List (den erl)) (a0_15 a0_16 a0_17 : Bool) (a0_18 a0_19 a0_20 a0_21 a0_22 a0_23 a1_0 a1_1 a1_2 a1_3 a1_4 a1_5 a1_6 : Int) (a1_7 : List (den (.int .u8))) (a1_8 a1_9 : Int) (a1_10 : List (den rng)) (a1_11 a1_12 : Int) (a1_13 : List (den (.int .u8))) (a1_14 : List (den erl)) (a1_15 a1_16 a1_17 : Bool) (a1_18 a1_19 a1_20 a1_21 a1_22 a1_23 : Int) (K : A × List (List Leaf) → Option β) : evalF (F23_E k) Try.f23 (F23_a a0_0 a0_1 a0_2 a0_3 a0_4 a0_5 a0_6 a0_7 a0_8 a0_9 a0_10 a0_11 a0_12 a0_13 a0_14 a0_15 a0_16 a0_17 a0_18 a0_19 a0_20 a0_21 a0_22 a0_23 a1_0 a1_1 a1_2 a1_3 a1_4 a1_5 a1_6 a1_7 a1_8 a1_9 a1_10 a1_11 a1_12 a1_13 a1_14 a1_15 a1_16 a1_17 a1_18 a1_19 a1_20 a1_21 a1_22 a1_23) K = (F23 k a0_0 a0_1 a0_2 a0_3 a0_4 a0_5 a0_6 a0_7 a0_8 a0_9 a0_10 a0_11 a0_12 a0_13 a0_14 a0_15 a0_16 a0_17 a0_18 a0_19 a0_20 a0_21 a0_22 a0_23 a1_0 a1_1 a1_2 a1_3 a1_4 a1_5 a1_6 a1_7 a1_8 a1_9 a1_10 a1_11 a1_12 a1_13 a1_14 a1_15 a1_16 a1_17 a1_18 a1_19 a1_20 a1_21 a1_22 a1_23).bind fun r => K (F23_r r) := by
  rw [F23_st, F23]
  simp only [F23_T, bind_cond, Option.bind_assoc, Option.bind_some, Option.bind_none, Option.bind_fun_some]
theorem F23_tOk (k : Nat) : TabFn Try.prog (F23_t k) := .ent (F88_q k) F88_f (.ent (F89_q k) F89_f (.ent (F90_q k) F90_f (.none)))
theorem F23_con (k : Nat) (a0_0 a0_1 a0_2 a0_3 a0_4 a0_5 a0_6 : Int) (a0_7 : List (den (.int .u8))) (a0_8 a0_9 : Int) (a0_10 : List (den rng)) (a0_11 a0_12 : Int) (a0_13 : List (den (.int .u8))) (a0_14 : List (den erl)) (a0_15 a0_16 a0_17 : Bool) (a0_18 a0_19 a0_20 a0_21 a0_22 a0_23 a1_0 a1_1 a1_2 a1_3 a1_4 a1_5 a1_6 : Int) (a1_7 : List (den (.int .u8))) (a1_8 a1_9 : Int) (a1_10 : List (den rng)) (a1_11 a1_12 : Int) (a1_13 : List (den (.int .u8))) (a1_14 : List (den erl)) (a1_15 a1_16 a1_17 : Bool) (a1_18 a1_19 a1_20 a1_21 a1_22 a1_23 : Int) : Contract Try.prog 23 (F23_a a0_0 a0_1 a0_2 a0_3 a0_4 a0_5 a0_6 a0_7 a0_8 a0_9 a0_10 a0_11 a0_12 a0_13 a0_14 a0_15 a0_16 a0_17 a0_18 a0_19 a0_20 a0_21 a0_22 a0_23 a1_0 a1_1 a1_2 a1_3 a1_4 a1_5 a1_6 a1_7 a1_8 a1_9 a1_10 a1_11 a1_12 a1_13 a1_14 a1_15 a1_16 a1_17 a1_18 a1_19 a1_20 a1_21 a1_22 a1_23) ⟨F23 k a0_0 a0_1 a0_2 a0_3 a0_4 a0_5 a0_6 a0_7 a0_8 a0_9 a0_10 a0_11 a0_12 a0_13 a0_14 a0_15 a0_16 a0_17 a0_18 a0_19 a0_20 a0_21 a0_22 a0_23 a1_0 a1_1 a1_2 a1_3 a1_4 a1_5 a1_6 a1_7 a1_8 a1_9 a1_10 a1_11 a1_12 a1_13 a1_14 a1_15 a1_16 a1_17 a1_18 a1_19 a1_20 a1_21 a1_22 a1_23, F23_r⟩ := con_of (envOk (F23_tOk k) _ _ _ _) mixed Try.func23 rfl rfl (F23_ev k a0_0 a0_1 a0_2 a0_3 a0_4 a0_5 a0_6 a0_7 a0_8 a0_9 a0_10 a0_11 a0_12 a0_13 a0_14 a0_15 a0_16 a0_17 a0_18 a0_19 a0_20 a0_21 a0_22 a0_23 a1_0 a1_1 a1_2 a1_3 a1_4 a1_5 a1_6 a1_7 a1_8 a1_9 a1_10 a1_11 a1_12 a1_13 a1_14 a1_15 a1_16 a1_17 a1_18 a1_19 a1_20 a1_21 a1_22 a1_23 some)
def F23_sh : List AK := [.agg [.l (.int .i64), .l (.int .i64), .l (.int .i64), .l (.int .i64), .l (.int .i64), .l (.int .i64), .l (.int .i64), .l (.sl .ro (.int .u8)), .l (.int .i64), .l (.int .i64), .l (.sl .ro rng), .l (.int .i64), .l (.int .i64), .l (.sl .ro (.int .u8)), .l (.sl .ro erl), .l (.bool), .l (.bool), .l (.bool), .l (.int .i64), .l (.int .i64), .l (.int .i64), .l (.int .i64), .l (.int .i64), .l (.int .i64)], .agg [.l (.int .i64), .l (.int .i64), .l (.int .i64), .l (.int .i64), .l (.int .i64), .l (.int .i64), .l (.int .i64), .l (.sl .ro (.int .u8)), .l (.int .i64), .l (.int .i64), .l (.sl .ro rng), .l (.int .i64), .l (.int .i64), .l (.sl .ro (.int .u8)), .l (.sl .ro erl), .l (.bool), .l (.bool), .l (.bool), .l (.int .i64), .l (.int .i64), .l (.int .i64), .l (.int .i64), .l (.int .i64), .l (.int .i64)]]
def F23_p (k : Nat) : List Arg → Option CR := cle F23_sh fun x => ⟨F23 k x.1.1 x.1.2.1 x.1.2.2.1 x.1.2.2.2.1 x.1.2.2.2.2.1 x.1.2.2.2.2.2.1 x.1.2.2.2.2.2.2.1 x.1.2.2.2.2.2.2.2.1 x.1.2.2.2.2.2.2.2.2.1 x.1.2.2.2.2.2.2.2.2.2.1 x.1.2.2.2.2.2.2.2.2.2.2.1 x.1.2.2.2.2.2.2.2.2.2.2.2.1 x.1.2.2.2.2.2.2.2.2.2.2.2.2.1 x.1.2.2.2.2.2.2.2.2.2.2.2.2.2.1 x.1.2.2.2.2.2.2.2.2.2.2.2.2.2.2.1 x.1.2.2.2.2.2.2.2.2.2.2.2.2.2.2.2.1 x.1.2.2.2.2.2.2.2.2.2.2.2.2.2.2.2.2.1 x.1.2.2.2.2.2.2.2.2.2.2.2.2.2.2.2.2.2.1 x.1.2.2.2.2.2.2.2.2.2.2.2.2.2.2.2.2.2.2.1 x.1.2.2.2.2.2.2.2.2.2.2.2.2.2.2.2.2.2.2.2.1 x.1.2.2.2.2.2.2.2.2.2.2.2.2.2.2.2.2.2.2.2.2.1 x.1.2.2.2.2.2.2.2.2.2.2.2.2.2.2.2.2.2.2.2.2.2.1 x.1.2.2.2.2.2.2.2.2.2.2.2.2.2.2.2.2.2.2.2.2.2.2.1 x.1.2.2.2.2.2.2.2.2.2.2.2.2.2.2.2.2.2.2.2.2.2.2.2.1 x.2.1.1 x.2.1.2.1 x.2.1.2.2.1 x.2.1.2.2.2.1 x.2.1.2.2.2.2.1 x.2.1.2.2.2.2.2.1 x.2.1.2.2.2.2.2.2.1 x.2.1.2.2.2.2.2.2.2.1 x.2.1.2.2.2.2.2.2.2.2.1 x.2.1.2.2.2.2.2.2.2.2.2.1 x.2.1.2.2.2.2.2.2.2.2.2.2.1 x.2.1.2.2.2.2.2.2.2.2.2.2.2.1 x.2.1.2.2.2.2.2.2.2.2.2.2.2.2.1 x.2.1.2.2.2.2.2.2.2.2.2.2.2.2.2.1 x.2.1.2.2.2.2.2.2.2.2.2.2.2.2.2.2.1 x.2.1.2.2.2.2.2.2.2.2.2.2.2.2.2.2.2.1 x.2.1.2.2.2.2.2.2.2.2.2.2.2.2.2.2.2.2.1 x.2.1.2.2.2.2.2.2.2.2.2.2.2.2.2.2.2.2.2.1 x.2.1.2.2.2.2.2.2.2.2.2.2.2.2.2.2.2.2.2.2.1 x.2.1.2.2.2.2.2.2.2.2.2.2.2.2.2.2.2.2.2.2.2.1 x.2.1.2.2.2.2.2.2.2.2.2.2.2.2.2.2.2.2.2.2.2.2.1 x.2.1.2.2.2.2.2.2.2.2.2.2.2.2.2.2.2.2.2.2.2.2.2.1 x.2.1.2.2.2.2.2.2.2.2.2.2.2.2.2.2.2.2.2.2.2.2.2.2.1 x.2.1.2.2.2.2.2.2.2.2.2.2.2.2.2.2.2.2.2.2.2.2.2.2.2.1, F23_r⟩
theorem F23_q (k : Nat) : ∀ xs cr, F23_p k xs = some cr → Contract Try.prog 23 xs cr := cle_ok fun x => F23_con k _ _ _ _ _ _ _ _ _ _ _ _ _ _ _ _ _ _ _ _ _ _ _ _ _ _ _ _ _ _ _ _ _ _ _ _ _ _ _ _ _ _ _ _ _ _ _ _
theorem F23_f : FnOk Try.prog 23 := .of (by kernel_rfl)
/-! 16: loop.example/netstack/laws.eqSegment -/
def F16_t (k : Nat) : Tab := entT 70 (F70_p k) <| entT 42 (F42_p k) <| noTab
abbrev F16_E (k : Nat) : Env := env (F16_t k) noHint .own [] k
abbrev F16_a (a0_0 a0_1 a0_2 a0_3 a0_4 : Int) (a0_5 a0_6 a0_7 a0_8 : Bool) (a0_9 : List (den rng)) (a0_10 : List (den (.int .u8))) (a1_0 a1_1 a1_2 a1_3 a1_4 : Int) (a1_5 a1_6 a1_7 a1_8 : Bool) (a1_9 : List (den rng)) (a1_10 : List (den (.int .u8))) : List Arg := [.agg [.l (.v (.int .i64 a0_0)), .l (.v (.int .i64 a0_1)), .l (.v (.int .i64 a0_2)), .l (.v (.int .i64 a0_3)), .l (.v (.int .i64 a0_4)), .l (.v (.bool a0_5)), .l (.v (.bool a0_6)), .l (.v (.bool a0_7)), .l (.v (.bool a0_8)), .l (.s .ro rng a0_9), .l (.s .ro (.int .u8) a0_10)], .agg [.l (.v (.int .i64 a1_0)), .l (.v (.int .i64 a1_1)), .l (.v (.int .i64 a1_2)), .l (.v (.int .i64 a1_3)), .l (.v (.int .i64 a1_4)), .l (.v (.bool a1_5)), .l (.v (.bool a1_6)), .l (.v (.bool a1_7)), .l (.v (.bool a1_8)), .l (.s .ro rng a1_9), .l (.s .ro (.int .u8) a1_10)]]
def F16_r (r : Bool) : A × List (List Leaf) := (.one (.v (.bool r)), [])
def F16_T {β : Type} (k : Nat) (a0_0 a0_1 a0_2 a0_3 a0_4 : Int) (a0_5 a0_6 a0_7 a0_8 : Bool) (a0_9 : List (den rng)) (a0_10 : List (den (.int .u8))) (a1_0 a1_1 a1_2 a1_3 a1_4 : Int) (a1_5 a1_6 a1_7 a1_8 : Bool) (a1_9 : List (den rng)) (a1_10 : List (den (.int .u8))) (RET : Bool → Option β) : Option β := cond (a0_0 != a1_0) (RET false) (cond (a0_1 != a1_1) (RET false) (cond (a0_2 != a1_2) (RET false) (cond (a0_3 != a1_3) (RET false) (cond (a0_4 != a1_4) (RET false) (cond (!(a0_5 == a1_5)) (RET false) (cond (!(a0_6 == a1_6)) (RET false) (cond (!(a0_7 == a1_7)) (RET false) (cond (!(a0_8 == a1_8)) (RET false) ((F70 k a0_9 a1_9).bind fun b1 => cond (!b1) (RET false) ((F42 k a0_10 a1_10).bind fun b2 => cond (!b2) (RET false) (RET true)))))))))))
def F16 (k : Nat) (a0_0 a0_1 a0_2 a0_3 a0_4 : Int) (a0_5 a0_6 a0_7 a0_8 : Bool) (a0_9 : List (den rng)) (a0_10 : List (den (.int .u8))) (a1_0 a1_1 a1_2 a1_3 a1_4 : Int) (a1_5 a1_6 a1_7 a1_8 : Bool) (a1_9 : List (den rng)) (a1_10 : List (den (.int .u8))) : Option (Bool) := F16_T k a0_0 a0_1 a0_2 a0_3 a0_4 a0_5 a0_6 a0_7 a0_8 a0_9 a0_10 a1_0 a1_1 a1_2 a1_3 a1_4 a1_5 a1_6 a1_7 a1_8 a1_9 a1_10 some
theorem F16_st {β : Type} (k : Nat) (a0_0 a0_1 a0_2 a0_3 a0_4 : Int) (a0_5 a0_6 a0_7 a0_8 : Bool) (a0_9 : List (den rng)) (a0_10 : List (den (.int .u8))) (a1_0 a1_1 a1_2 a1_3 a1_4 : Int) (a1_5 a1_6 a1_7 a1_8 : Bool) (a1_9 : List (den rng)) (a1_10 : List (den (.int .u8))) (K : A × List (List Leaf) → Option β) : evalF (F16_E k) Try.f16 (F16_a a0_0 a0_1 a0_2 a0_3 a0_4 a0_5 a0_6 a0_7 a0_8 a0_9 a0_10 a1_0 a1_1 a1_2 a1_3 a1_4 a1_5 a1_6 a1_7 a1_8 a1_9 a1_10) K =
    F16_T k a0_0 a0_1 a0_2 a0_3 a0_4 a0_5 a0_6 a0_7 a0_8 a0_9 a0_10 a1_0 a1_1 a1_2 a1_3 a1_4 a1_5 a1_6 a1_7 a1_8 a1_9 a1_10 (fun r => K (F16_r r)) := by kernel_rfl
theorem F16_ev {β : Type} (k : Nat) (a0_0 a0_1 a0_2 a0_3 a0_4 : Int) (a0_5 a0_6 a0_7 a0_8 : Bool) (a0_9 : List (den rng)) (a0_10 : List (den (.int .u8))) (a1_0 a1_1 a1_2 a1_3 a1_4 : Int) (a1_5 a1_6 a1_7 a1_8 : Bool) (a1_9 : List (den rng)) (a1_10 : List (den (.int .u8))) (K : A × List (List Leaf) → Option β) : evalF (F16_E k) Try.f16 (F16_a a0_0 a0_1 a0_2 a0_3 a0_4 a0_5 a0_6 a0_7 a0_8 a0_9 a0_10 a1_0 a1_1 a1_2 a1_3 a1_4 a1_5 a1_6 a1_7 a1_8 a1_9 a1_10) K = (F16 k a0_0 a0_1 a0_2 a0_3 a0_4 a0_5 a0_6 a0_7 a0_8 a0_9 a0_10 a1_0 a1_1 a1_2 a1_3 a1_4 a1_5 a1_6 a1_7 a1_8 a1_9 a1_10).bind fun r => K (F16_r r) := by
  rw [F16_st, F16]
  simp only [F16_T, bind_cond, Option.bind_assoc, Option.bind_some, Option.bind_none, Option.bind_fun_some]
theorem F16_tOk (k : Nat) : TabFn Try.prog (F16_t k) := .ent (F70_q k) F70_f (.ent (F42_q k) F42_f (.none))
theorem F16_con (k : Nat) (a0_0 a0_1 a0_2 a0_3 a0_4 : Int) (a0_5 a0_6 a0_7 a0_8 : Bool) (a0_9 : List (den rng)) (a0_10 : List (den (.int .u8))) (a1_0 a1_1 a1_2 a1_3 a1_4 : Int) (a1_5 a1_6 a1_7 a1_8 : Bool) (a1_9 : List (den rng)) (a1_10 : List (den (.int .u8))) : Contract Try.prog 16 (F16_a a0_0 a0_1 a0_2 a0_3 a0_4 a0_5 a0_6 a0_7 a0_8 a0_9 a0_10 a1_0 a1_1 a1_2 a1_3 a1_4 a1_5 a1_6 a1_7 a1_8 a1_9 a1_10) ⟨F16 k a0_0 a0_1 a0_2 a0_3 a0_4 a0_5 a0_6 a0_7 a0_8 a0_9 a0_10 a1_0 a1_1 a1_2 a1_3 a1_4 a1_5 a1_6 a1_7 a1_8 a1_9 a1_10, F16_r⟩ := con_of (envOk (F16_tOk k) _ _ _ _) mixed Try.func16 rfl rfl (F16_ev k a0_0 a0_1 a0_2 a0_3 a0_4 a0_5 a0_6 a0_7 a0_8 a0_9 a0_10 a1_0 a1_1 a1_2 a1_3 a1_4 a1_5 a1_6 a1_7 a1_8 a1_9 a1_10 some)
def F16_sh : List AK := [.agg [.l (.int .i64), .l (.int .i64), .l (.int .i64), .l (.int .i64), .l (.int .i64), .l (.bool), .l (.bool), .l (.bool), .l (.bool), .l (.sl .ro rng), .l (.sl .ro (.int .u8))], .agg [.l (.int .i64), .l (.int .i64), .l (.int .i64), .l (.int .i64), .l (.int .i64), .l (.bool), .l (.bool), .l (.bool), .l (.bool), .l (.sl .ro rng), .l (.sl .ro (.int .u8))]]
def F16_p (k : Nat) : List Arg → Option CR := cle F16_sh fun x => ⟨F16 k x.1.1 x.1.2.1 x.1.2.2.1 x.1.2.2.2.1 x.1.2.2.2.2.1 x.1.2.2.2.2.2.1 x.1.2.2.2.2.2.2.1 x.1.2.2.2.2.2.2.2.1 x.1.2.2.2.2.2.2.2.2.1 x.1.2.2.2.2.2.2.2.2.2.1 x.1.2.2.2.2.2.2.2.2.2.2.1 x.2.1.1 x.2.1.2.1 x.2.1.2.2.1 x.2.1.2.2.2.1 x.2.1.2.2.2.2.1 x.2.1.2.2.2.2.2.1 x.2.1.2.2.2.2.2.2.1 x.2.1.2.2.2.2.2.2.2.1 x.2.1.2.2.2.2.2.2.2.2.1 x.2.1.2.2.2.2.2.2.2.2.2.1 x.2.1.2.2.2.2.2.2.2.2.2.2.1, F16_r⟩
theorem F16_q (k : Nat) : ∀ xs cr, F16_p k xs = some cr → Contract Try.prog 16 xs cr := cle_ok fun x => F16_con k _ _ _ _ _ _ _ _ _ _ _ _ _ _ _ _ _ _ _ _ _ _
theorem F16_f : FnOk Try.prog 16 := .of (by kernel_rfl)
/-! 24: loop.example/netstack/laws.eqSegmentS -/
def F24_h : Nat → Hint
  | 0 => ⟨[(0, .plain), (1, .plain), (5, .plain)], []⟩
  | _ => ⟨[], []⟩
def F24_t (k : Nat) : Tab := entT 16 (F16_p k) <| noTab
abbrev F24_E (k : Nat) : Env := env (F24_t k) F24_h .own [] k
abbrev F24_a (a0 a1 : List (den seg)) : List Arg := [.one (.l (.s .ro seg a0)), .one (.l (.s .ro seg a1))]
def F24_r (r : Bool) : A × List (List Leaf) := (.one (.v (.bool r)), [])
def F24_s0 (a0 a1 : List (den seg)) (x5_0 : Int) : St := ⟨(.one (.s .ro seg a0)) :: (.one (.s .ro seg a1)) :: dz 3 ((.one (.v (.int .i64 x5_0))) :: dz 21 []), []⟩
def F24_l0_T {β : Type} (k : Nat) (a0 a1 : List (den seg)) (NX : Int → Option β) (RET : Bool → Option β) (x5_0 : Int) : Option β := cond (decide (x5_0 < ((a0.length : Nat) : Int))) (cond (decide (0 ≤ x5_0)) (cond (decide (x5_0 < ((a0.length : Nat) : Int))) (cond (decide (0 ≤ x5_0)) (cond (decide (x5_0 < ((a1.length : Nat) : Int))) ((F16 k ((atI a0 x5_0).1) (((atI a0 x5_0).2).1) ((((atI a0 x5_0).2).2).1) (((((atI a0 x5_0).2).2).2).1) ((((((atI a0 x5_0).2).2).2).2).1) (((((((atI a0 x5_0).2).2).2).2).2).1) ((((((((atI a0 x5_0).2).2).2).2).2).2).1) (((((((((atI a0 x5_0).2).2).2).2).2).2).2).1) ((((((((((atI a0 x5_0).2).2).2).2).2).2).2).2).1) (((((((((((atI a0 x5_0).2).2).2).2).2).2).2).2).2).1) (((((((((((atI a0 x5_0).2).2).2).2).2).2).2).2).2).2) ((atI a1 x5_0).1) (((atI a1 x5_0).2).1) ((((atI a1 x5_0).2).2).1) (((((atI a1 x5_0).2).2).2).1) ((((((atI a1 x5_0).2).2).2).2).1) (((((((atI a1 x5_0).2).2).2).2).2).1) ((((((((atI a1 x5_0).2).2).2).2).2).2).1) (((((((((atI a1 x5_0).2).2).2).2).2).2).2).1) ((((((((((atI a1 x5_0).2).2).2).2).2).2).2).2).1) (((((((((((atI a1 x5_0).2).2).2).2).2).2).2).2).2).1) (((((((((((atI a1 x5_0).2).2).2).2).2).2).2).2).2).2)).bind fun b1 => cond (!b1) (RET false) (NX (IntKind.i64.wrap (x5_0 + 1)))) none) none) none) none) (RET true)
def F24_l0 (k : Nat) (a0 a1 : List (den seg)) : Nat → Int → Option (Bool)
  | 0, _ => none
  | n + 1, x5_0 => F24_l0_T k a0 a1 (fun x5_0 => F24_l0 k a0 a1 n x5_0) some x5_0
theorem F24_l0_rd {β : Type} (k n : Nat) (a0 a1 : List (den seg)) (x5_0 : Int) (K : A × List (List Leaf) → Option β) :
    loopG (F24_E k) Try.f24 [1, 1, 0, 1, 0] 0 (kontAt (F24_E k) [1, 1, 0, 1, 0] (bodyOf Try.f24) 0 (endC (F24_E k) Try.f24 (F24_a a0 a1) K)) (n + 1) (F24_s0 a0 a1 x5_0) =
    F24_l0_T k a0 a1 (fun x5_0 => loopG (F24_E k) Try.f24 [1, 1, 0, 1, 0] 0 (kontAt (F24_E k) [1, 1, 0, 1, 0] (bodyOf Try.f24) 0 (endC (F24_E k) Try.f24 (F24_a a0 a1) K)) n (F24_s0 a0 a1 x5_0)) (fun r => K (F24_r r)) x5_0 := by kernel_rfl
theorem F24_l0_lp {β : Type} (k : Nat) (a0 a1 : List (den seg)) (K : A × List (List Leaf) → Option β) (n : Nat) : ∀ (x5_0 : Int), loopG (F24_E k) Try.f24 [1, 1, 0, 1, 0] 0 (kontAt (F24_E k) [1, 1, 0, 1, 0] (bodyOf Try.f24) 0 (endC (F24_E k) Try.f24 (F24_a a0 a1) K)) n (F24_s0 a0 a1 x5_0) =
    (F24_l0 k a0 a1 n x5_0).bind fun r => K (F24_r r) := by
  induction n with
  | zero => intros; rfl
  | succ n ih =>
    intros
    rw [F24_l0_rd, F24_l0]
    simp only [F24_l0_T, bind_cond, Option.bind_assoc, Option.bind_some, Option.bind_none, Option.bind_fun_some, ih]
def F24_T {β : Type} (k : Nat) (a0 a1 : List (den seg)) (LP0 : Int → Option β) (RET : Bool → Option β) : Option β := cond (((a0.length : Nat) : Int) != ((a1.length : Nat) : Int)) (RET false) (LP0 0)
def F24 (k : Nat) (a0 a1 : List (den seg)) : Option (Bool) := F24_T k a0 a1 (fun x5_0 => F24_l0 k a0 a1 k x5_0) some
theorem F24_st {β : Type} (k : Nat) (a0 a1 : List (den seg)) (K : A × List (List Leaf) → Option β) : evalF (F24_E k) Try.f24 (F24_a a0 a1) K =
    F24_T k a0 a1 (fun x5_0 => loopG (F24_E k) Try.f24 [1, 1, 0, 1, 0] 0 (kontAt (F24_E k) [1, 1, 0, 1, 0] (bodyOf Try.f24) 0 (endC (F24_E k) Try.f24 (F24_a a0 a1) K)) k (F24_s0 a0 a1 x5_0)) (fun r => K (F24_r r)) := by kernel_rfl
theorem F24_ev {β : Type} (k : Nat) (a0 a1 : List (den seg)) (K : A × List (List Leaf) → Option β) : evalF (F24_E k) Try.f24 (F24_a a0 a1) K = (F24 k a0 a1).bind fun r => K (F24_r r) := by
  rw [F24_st, F24]
  simp only [F24_T, bind_cond, Option.bind_assoc, Option.bind_some, Option.bind_none, Option.bind_fun_some, F24_l0_lp]
theorem F24_tOk (k : Nat) : TabFn Try.prog (F24_t k) := .ent (F16_q k) F16_f (.none)
theorem F24_con (k : Nat) (a0 a1 : List (den seg)) : Contract Try.prog 24 (F24_a a0 a1) ⟨F24 k a0 a1, F24_r⟩ := con_of (envOk (F24_tOk k) _ _ _ _) mixed Try.func24 rfl rfl (F24_ev k a0 a1 some)
def F24_sh : List AK := [.one (.l (.sl .ro seg)), .one (.l (.sl .ro seg))]
def F24_p (k : Nat) : List Arg → Option CR := cle F24_sh fun x => ⟨F24 k x.1 x.2.1, F24_r⟩
theorem F24_q (k : Nat) : ∀ xs cr, F24_p k xs = some cr → Contract Try.prog 24 xs cr := cle_ok fun x => F24_con k _ _
theorem F24_f : FnOk Try.prog 24 := .of (by kernel_rfl)
/-! 43: loop.example/netstack/laws.markByteS -/
def F43_h : Nat → Hint
  | 0 => ⟨[(0, .plain), (1, .plain), (5, .plain)], [(0, .plain)]⟩
  | _ => ⟨[], []⟩
abbrev F43_E (k : Nat) : Env := env noTab F43_h .own [(true, 0)] k
abbrev F43_a (a0 : List (den (.int .u8))) (a1 : Int) : List Arg := [.one (.b (.s .own (.int .u8) a0)), .one (.l (.v (.int .i64 a1)))]
def F43_r (r : Int × List (den (.int .u8))) : A × List (List Leaf) := (.one (.v (.int .i64 r.1)), [[.s .own (.int .u8) r.2]])
def F43_s0 (a0 : List (den (.int .u8))) (a1 : Int) (x1_0 x5_0 : Int) (m0_0 : List (den (.int .u8))) : St := ⟨(.one (.a (.cell 0) 0 0 none)) :: (.one (.v (.int .i64 x1_0))) :: dz 3 ((.one (.v (.int .i64 x5_0))) :: dz 14 []), [(0, ⟨.s .own (.int .u8) m0_0, 0, 0⟩)]⟩
def F43_l0_T {β : Type} (k : Nat) (a0 : List (den (.int .u8))) (a1 : Int) (NX : Int → Int → List (den (.int .u8)) → Option β) (RET : (Int × List (den (.int .u8))) → Option β) (x1_0 x5_0 : Int) (m0_0 : List (den (.int .u8))) : Option β := cond (decide (x5_0 < ((m0_0.length : Nat) : Int))) (cond (decide (0 ≤ x5_0)) (cond (decide (x5_0 < ((m0_0.length : Nat) : Int))) (NX (IntKind.i64.wrap (x1_0 + 1)) (IntKind.i64.wrap (x5_0 + 1)) (m0_0.set x5_0.toNat (IntKind.u8.wrap (x1_0)))) none) none) (RET (x1_0, m0_0))
def F43_l0 (k : Nat) (a0 : List (den (.int .u8))) (a1 : Int) : Nat → Int → Int → List (den (.int .u8)) → Option (Int × List (den (.int .u8)))
  | 0, _, _, _ => none
  | n + 1, x1_0, x5_0, m0_0 => F43_l0_T k a0 a1 (fun x1_0 x5_0 m0_0 => F43_l0 k a0 a1 n x1_0 x5_0 m0_0) some x1_0 x5_0 m0_0
theorem F43_l0_rd {β : Type} (k n : Nat) (a0 : List (den (.int .u8))) (a1 : Int) (x1_0 x5_0 : Int) (m0_0 : List (den (.int .u8))) (K : A × List (List Leaf) → Option β) :
    loopG (F43_E k) Try.f43 [1, 0, 1, 0] 0 (kontAt (F43_E k) [1, 0, 1, 0] (bodyOf Try.f43) 0 (endC (F43_E k) Try.f43 (F43_a a0 a1) K)) (n + 1) (F43_s0 a0 a1 x1_0 x5_0 m0_0) =
    F43_l0_T k a0 a1 (fun x1_0 x5_0 m0_0 => loopG (F43_E k) Try.f43 [1, 0, 1, 0] 0 (kontAt (F43_E k) [1, 0, 1, 0] (bodyOf Try.f43) 0 (endC (F43_E k) Try.f43 (F43_a a0 a1) K)) n (F43_s0 a0 a1 x1_0 x5_0 m0_0)) (fun r => K (F43_r r)) x1_0 x5_0 m0_0 := by kernel_rfl
theorem F43_l0_lp {β : Type} (k : Nat) (a0 : List (den (.int .u8))) (a1 : Int) (K : A × List (List Leaf) → Option β) (n : Nat) : ∀ (x1_0 x5_0 : Int) (m0_0 : List (den (.int .u8))), loopG (F43_E k) Try.f43 [1, 0, 1, 0] 0 (kontAt (F43_E k) [1, 0, 1, 0] (bodyOf Try.f43) 0 (endC (F43_E k) Try.f43 (F43_a a0 a1) K)) n (F43_s0 a0 a1 x1_0 x5_0 m0_0) =
    (F43_l0 k a0 a1 n x1_0 x5_0 m0_0).bind fun r => K (F43_r r) := by
  induction n with
  | zero => intros; rfl
  | succ n ih =>
    intros
    rw [F43_l0_rd, F43_l0]
    simp only [F43_l0_T, bind_cond, Option.bind_assoc, Option.bind_some, Option.bind_none, Option.bind_fun_some, ih]
def F43_T {β : Type} (k : Nat) (a0 : List (den (.int .u8))) (a1 : Int) (LP0 : Int → Int → List (den (.int .u8)) → Option β) : Option β := LP0 a1 0 a0
def F43 (k : Nat) (a0 : List (den (.int .u8))) (a1 : Int) : Option (Int × List (den (.int .u8))) := F43_T k a0 a1 (fun x1_0 x5_0 m0_0 => F43_l0 k a0 a1 k x1_0 x5_0 m0_0)
theorem F43_st {β : Type} (k : Nat) (a0 : List (den (.int .u8))) (a1 : Int) (K : A × List (List Leaf) → Option β) : evalF (F43_E k) Try.f43 (F43_a a0 a1) K =
    F43_T k a0 a1 (fun x1_0 x5_0 m0_0 => loopG (F43_E k) Try.f43 [1, 0, 1, 0] 0 (kontAt (F43_E k) [1, 0, 1, 0] (bodyOf Try.f43) 0 (endC (F43_E k) Try.f43 (F43_a a0 a1) K)) k (F43_s0 a0 a1 x1_0 x5_0 m0_0)) := by kernel_rfl
theorem F43_ev {β : Type} (k : Nat) (a0 : List (den (.int .u8))) (a1 : Int) (K : A × List (List Leaf) → Option β) : evalF (F43_E k) Try.f43 (F43_a a0 a1) K = (F43 k a0 a1).bind fun r => K (F43_r r) := by
  rw [F43_st, F43]
  simp only [F43_T, bind_cond, Option.bind_assoc, Option.bind_some, Option.bind_none, Option.bind_fun_some, F43_l0_lp]
theorem F43_con (k : Nat) (a0 : List (den (.int .u8))) (a1 : Int) : Contract Try.prog 43 (F43_a a0 a1) ⟨F43 k a0 a1, F43_r⟩ := con_of (envOk .none _ _ _ _) mixed Try.func43 rfl rfl (F43_ev k a0 a1 some)
def F43_sh : List AK := [.one (.b (.sl .own (.int .u8))), .one (.l (.int .i64))]
def F43_p (k : Nat) : List Arg → Option CR := cle F43_sh fun x => ⟨F43 k x.1 x.2.1, F43_r⟩
theorem F43_q (k : Nat) : ∀ xs cr, F43_p k xs = some cr → Contract Try.prog 43 xs cr := cle_ok fun x => F43_con k _ _
theorem F43_f : FnOk Try.prog 43 := .of (by kernel_rfl)
/-! 71: loop.example/netstack/laws.markRangeS -/
def F71_h : Nat → Hint
  | 0 => ⟨[(0, .plain), (1, .plain), (5, .plain)], [(0, .plain)]⟩
  | _ => ⟨[], []⟩
abbrev F71_E (k : Nat) : Env := env noTab F71_h .own [(true, 0)] k
abbrev F71_a (a0 : List (den rng)) (a1 : Int) : List Arg := [.one (.b (.s .own rng a0)), .one (.l (.v (.int .i64 a1)))]
def F71_r (r : Int × List (den rng)) : A × List (List Leaf) := (.one (.v (.int .i64 r.1)), [[.s .own rng r.2]])
def F71_s0 (a0 : List (den rng)) (a1 : Int) (x1_0 x5_0 : Int) (m0_0 : List (den rng)) : St := ⟨(.one (.a (.cell 0) 0 0 none)) :: (.one (.v (.int .i64 x1_0))) :: dz 3 ((.one (.v (.int .i64 x5_0))) :: dz 21 []), [(0, ⟨.s .own rng m0_0, 0, 0⟩)]⟩
def F71_l0_T {β : Type} (k : Nat) (a0 : List (den rng)) (a1 : Int) (NX : Int → Int → List (den rng) → Option β) (RET : (Int × List (den rng)) → Option β) (x1_0 x5_0 : Int) (m0_0 : List (den rng)) : Option β := cond (decide (x5_0 < ((m0_0.length : Nat) : Int))) (cond (decide (0 ≤ x5_0)) (cond (decide (x5_0 < ((m0_0.length : Nat) : Int))) (cond (decide (0 ≤ x5_0)) (cond (decide (x5_0 < (((m0_0.set x5_0.toNat (x1_0, (atI m0_0 x5_0).2)).length : Nat) : Int))) (NX (IntKind.i64.wrap ((IntKind.i64.wrap (x1_0 + 1)) + 1)) (IntKind.i64.wrap (x5_0 + 1)) ((m0_0.set x5_0.toNat (x1_0, (atI m0_0 x5_0).2)).set x5_0.toNat ((atI (m0_0.set x5_0.toNat (x1_0, (atI m0_0 x5_0).2)) x5_0).1, IntKind.i64.wrap (x1_0 + 1)))) none) none) none) none) (RET (x1_0, m0_0))
def F71_l0 (k : Nat) (a0 : List (den rng)) (a1 : Int) : Nat → Int → Int → List (den rng) → Option (Int × List (den rng))
  | 0, _, _, _ => none
  | n + 1, x1_0, x5_0, m0_0 => F71_l0_T k a0 a1 (fun x1_0 x5_0 m0_0 => F71_l0 k a0 a1 n x1_0 x5_0 m0_0) some x1_0 x5_0 m0_0
theorem F71_l0_rd {β : Type} (k n : Nat) (a0 : List (den rng)) (a1 : Int) (x1_0 x5_0 : Int) (m0_0 : List (den rng)) (K : A × List (List Leaf) → Option β) :
    loopG (F71_E k) Try.f71 [1, 0, 1, 0] 0 (kontAt (F71_E k) [1, 0, 1, 0] (bodyOf Try.f71) 0 (endC (F71_E k) Try.f71 (F71_a a0 a1) K)) (n + 1) (F71_s0 a0 a1 x1_0 x5_0 m0_0) =
    F71_l0_T k a0 a1 (fun x1_0 x5_0 m0_0 => loopG (F71_E k) Try.f71 [1, 0, 1, 0] 0 (kontAt (F71_E k) [1, 0, 1, 0] (bodyOf Try.f71) 0 (endC (F71_E k) Try.f71 (F71_a a0 a1) K)) n (F71_s0 a0 a1 x1_0 x5_0 m0_0)) (fun r => K (F71_r r)) x1_0 x5_0 m0_0 := by kernel_rfl
theorem F71_l0_lp {β : Type} (k : Nat) (a0 : List (den rng)) (a1 : Int) (K : A × List (List Leaf) → Option β) (n : Nat) : ∀ (x1_0 x5_0 : Int) (m0_0 : List (den rng)), loopG (F71_E k) Try.f71 [1, 0, 1, 0] 0 (kontAt (F71_E k) [1, 0, 1, 0] (bodyOf Try.f71) 0 (endC (F71_E k) Try.f71 (F71_a a0 a1) K)) n (F71_s0 a0 a1 x1_0 x5_0 m0_0) =
    (F71_l0 k a0 a1 n x1_0 x5_0 m0_0).bind fun r => K (F71_r r) := by
  induction n with
  | zero => intros; rfl
  | succ n ih =>
    intros
    rw [F71_l0_rd, F71_l0]
    simp only [F71_l0_T, bind_cond, Option.bind_assoc, Option.bind_some, Option.bind_none, Option.bind_fun_some, ih]
def F71_T {β : Type} (k : Nat) (a0 : List (den rng)) (a1 : Int) (LP0 : Int → Int → List (den rng) → Option β) : Option β := LP0 a1 0 a0
def F71 (k : Nat) (a0 : List (den rng)) (a1 : Int) : Option (Int × List (den rng)) := F71_T k a0 a1 (fun x1_0 x5_0 m0_0 => F71_l0 k a0 a1 k x1_0 x5_0 m0_0)
theorem F71_st {β : Type} (k : Nat) (a0 : List (den rng)) (a1 : Int) (K : A × List (List Leaf) → Option β) : evalF (F71_E k) Try.f71 (F71_a a0 a1) K =
    F71_T k a0 a1 (fun x1_0 x5_0 m0_0 => loopG (F71_E k) Try.f71 [1, 0, 1, 0] 0 (kontAt (F71_E k) [1, 0, 1, 0] (bodyOf Try.f71) 0 (endC (F71_E k) Try.f71 (F71_a a0 a1) K)) k (F71_s0 a0 a1 x1_0 x5_0 m0_0)) := by kernel_rfl
theorem F71_ev {β : Type} (k : Nat) (a0 : List (den rng)) (a1 : Int) (K : A × List (List Leaf) → Option β) : evalF (F71_E k) Try.f71 (F71_a a0 a1) K = (F71 k a0 a1).bind fun r => K (F71_r r) := by
  rw [F71_st, F71]
  simp only [F71_T, bind_cond, Option.bind_assoc, Option.bind_some, Option.bind_none, Option.bind_fun_some, F71_l0_lp]
theorem F71_con (k : Nat) (a0 : List (den rng)) (a1 : Int) : Contract Try.prog 71 (F71_a a0 a1) ⟨F71 k a0 a1, F71_r⟩ := con_of (envOk .none _ _ _ _) mixed Try.func71 rfl rfl (F71_ev k a0 a1 some)
def F71_sh : List AK := [.one (.b (.sl .own rng)), .one (.l (.int .i64))]
def F71_p (k : Nat) : List Arg → Option CR := cle F71_sh fun x => ⟨F71 k x.1 x.2.1, F71_r⟩
theorem F71_q (k : Nat) : ∀ xs cr, F71_p k xs = some cr → Contract Try.prog 71 xs cr := cle_ok fun x => F71_con k _ _
theorem F71_f : FnOk Try.prog 71 := .of (by kernel_rfl)
/-! 91: loop.example/netstack/laws.markMouth -/
def F91_t (k : Nat) : Tab := entT 43 (F43_p k) <| entT 71 (F71_p k) <| noTab
abbrev F91_E (k : Nat) : Env := env (F91_t k) noHint .own [(true, 1), (true, 4)] k
abbrev F91_a (a0_0 : Int) (a0_1 : List (den (.int .u8))) (a0_2 a0_3 : Int) (a0_4 : List (den rng)) (a1 : Int) : List Arg := [.agg [.l (.v (.int .i64 a0_0)), .b (.s .own (.int .u8) a0_1), .l (.v (.int .i64 a0_2)), .l (.v (.int .i64 a0_3)), .b (.s .own rng a0_4)], .one (.l (.v (.int .i64 a1)))]
def F91_r (r : Int × List (den (.int .u8)) × List (den rng)) : A × List (List Leaf) := (.one (.v (.int .i64 r.1)), [[.s .own (.int .u8) r.2.1], [.s .own rng r.2.2]])
def F91 (k : Nat) (a0_0 : Int) (a0_1 : List (den (.int .u8))) (a0_2 a0_3 : Int) (a0_4 : List (den rng)) (a1 : Int) : Option (Int × List (den (.int .u8)) × List (den rng)) := (F43 k a0_1 a1).bind fun b1 => (F71 k a0_4 b1.1).bind fun b2 => some (b2.1, b1.2, b2.2)
theorem F91_st {β : Type} (k : Nat) (a0_0 : Int) (a0_1 : List (den (.int .u8))) (a0_2 a0_3 : Int) (a0_4 : List (den rng)) (a1 : Int) (K : A × List (List Leaf) → Option β) : evalF (F91_E k) Try.f91 (F91_a a0_0 a0_1 a0_2 a0_3 a0_4 a1) K =
    (F43 k a0_1 a1).bind fun b1 => (F71 k a0_4 b1.1).bind fun b2 => K (.one (.v (.int .i64 b2.1)), [[.s .own (.int .u8) b1.2], [.s .own rng b2.2]]) := by kernel_rfl
theorem F91_ev {β : Type} (k : Nat) (a0_0 : Int) (a0_1 : List (den (.int .u8))) (a0_2 a0_3 : Int) (a0_4 : List (den rng)) (a1 : Int) (K : A × List (List Leaf) → Option β) : evalF (F91_E k) Try.f91 (F91_a a0_0 a0_1 a0_2 a0_3 a0_4 a1) K = (F91 k a0_0 a0_1 a0_2 a0_3 a0_4 a1).bind fun r => K (F91_r r) := by
  rw [F91_st, F91]
  simp only [F91_r, bind_cond, Option.bind_assoc, Option.bind_some, Option.bind_none, Option.bind_fun_some]
theorem F91_tOk (k : Nat) : TabFn Try.prog (F91_t k) := .ent (F43_q k) F43_f (.ent (F71_q k) F71_f (.none))
theorem F91_con (k : Nat) (a0_0 : Int) (a0_1 : List (den (.int .u8))) (a0_2 a0_3 : Int) (a0_4 : List (den rng)) (a1 : Int) : Contract Try.prog 91 (F91_a a0_0 a0_1 a0_2 a0_3 a0_4 a1) ⟨F91 k a0_0 a0_1 a0_2 a0_3 a0_4 a1, F91_r⟩ := con_of (envOk (F91_tOk k) _ _ _ _) mixed Try.func91 rfl rfl (F91_ev k a0_0 a0_1 a0_2 a0_3 a0_4 a1 some)
def F91_sh : List AK := [.agg [.l (.int .i64), .b (.sl .own (.int .u8)), .l (.int .i64), .l (.int .i64), .b (.sl .own rng)], .one (.l (.int .i64))]
def F91_p (k : Nat) : List Arg → Option CR := cle F91_sh fun x => ⟨F91 k x.1.1 x.1.2.1 x.1.2.2.1 x.1.2.2.2.1 x.1.2.2.2.2.1 x.2.1, F91_r⟩
theorem F91_q (k : Nat) : ∀ xs cr, F91_p k xs = some cr → Contract Try.prog 91 xs cr := cle_ok fun x => F91_con k _ _ _ _ _ _
theorem F91_f : FnOk Try.prog 91 := .of (by kernel_rfl)
/-! 151: loop.example/netstack/laws.markEarlyS -/
def F151_h : Nat → Hint
  | 0 => ⟨[(0, .plain), (1, .plain), (5, .plain)], [(0, .plain)]⟩
  | _ => ⟨[], []⟩
abbrev F151_E (k : Nat) : Env := env noTab F151_h .own [(true, 0)] k
abbrev F151_a (a0 : List (den erl)) (a1 : Int) : List Arg := [.one (.b (.s .own erl a0)), .one (.l (.v (.int .i64 a1)))]
def F151_r (r : Int × List (den erl)) : A × List (List Leaf) := (.one (.v (.int .i64 r.1)), [[.s .own erl r.2]])
def F151_s0 (a0 : List (den erl)) (a1 : Int) (x1_0 x5_0 : Int) (m0_0 : List (den erl)) : St := ⟨(.one (.a (.cell 0) 0 0 none)) :: (.one (.v (.int .i64 x1_0))) :: dz 3 ((.one (.v (.int .i64 x5_0))) :: dz 22 []), [(0, ⟨.s .own erl m0_0, 0, 0⟩)]⟩
def F151_l0_T {β : Type} (k : Nat) (a0 : List (den erl)) (a1 : Int) (NX : Int → Int → List (den erl) → Option β) (RET : (Int × List (den erl)) → Option β) (x1_0 x5_0 : Int) (m0_0 : List (den erl)) : Option β := cond (decide (x5_0 < ((m0_0.length : Nat) : Int))) (cond (decide (0 ≤ x5_0)) (cond (decide (x5_0 < ((m0_0.length : Nat) : Int))) (cond (decide (0 ≤ x5_0)) (cond (decide (x5_0 < (((m0_0.set x5_0.toNat (x1_0, (atI m0_0 x5_0).2)).length : Nat) : Int))) (NX (IntKind.i64.wrap ((IntKind.i64.wrap (x1_0 + 1)) + 1)) (IntKind.i64.wrap (x5_0 + 1)) ((m0_0.set x5_0.toNat (x1_0, (atI m0_0 x5_0).2)).set x5_0.toNat ((atI (m0_0.set x5_0.toNat (x1_0, (atI m0_0 x5_0).2)) x5_0).1, IntKind.u8.wrap (IntKind.i64.wrap (x1_0 + 1))))) none) none) none) none) (RET (x1_0, m0_0))
def F151_l0 (k : Nat) (a0 : List (den erl)) (a1 : Int) : Nat → Int → Int → List (den erl) → Option (Int × List (den erl))
  | 0, _, _, _ => none
  | n + 1, x1_0, x5_0, m0_0 => F151_l0_T k a0 a1 (fun x1_0 x5_0 m0_0 => F151_l0 k a0 a1 n x1_0 x5_0 m0_0) some x1_0 x5_0 m0_0
theorem F151_l0_rd {β : Type} (k n : Nat) (a0 : List (den erl)) (a1 : Int) (x1_0 x5_0 : Int) (m0_0 : List (den erl)) (K : A × List (List Leaf) → Option β) :
    loopG (F151_E k) Try.f151 [1, 0, 1, 0] 0 (kontAt (F151_E k) [1, 0, 1, 0] (bodyOf Try.f151) 0 (endC (F151_E k) Try.f151 (F151_a a0 a1) K)) (n + 1) (F151_s0 a0 a1 x1_0 x5_0 m0_0) =
    F151_l0_T k a0 a1 (fun x1_0 x5_0 m0_0 => loopG (F151_E k) Try.f151 [1, 0, 1, 0] 0 (kontAt (F151_E k) [1, 0, 1, 0] (bodyOf Try.f151) 0 (endC (F151_E k) Try.f151 (F151_a a0 a1) K)) n (F151_s0 a0 a1 x1_0 x5_0 m0_0)) (fun r => K (F151_r r)) x1_0 x5_0 m0_0 := by kernel_rfl
theorem F151_l0_lp {β : Type} (k : Nat) (a0 : List (den erl)) (a1 : Int) (K : A × List (List Leaf) → Option β) (n : Nat) : ∀ (x1_0 x5_0 : Int) (m0_0 : List (den erl)), loopG (F151_E k) Try.f151 [1, 0, 1, 0] 0 (kontAt (F151_E k) [1, 0, 1, 0] (bodyOf Try.f151) 0 (endC (F151_E k) Try.f151 (F151_a a0 a1) K)) n (F151_s0 a0 a1 x1_0 x5_0 m0_0) =
    (F151_l0 k a0 a1 n x1_0 x5_0 m0_0).bind fun r => K (F151_r r) := by
  induction n with
  | zero => intros; rfl
  | succ n ih =>
    intros
    rw [F151_l0_rd, F151_l0]
    simp only [F151_l0_T, bind_cond, Option.bind_assoc, Option.bind_some, Option.bind_none, Option.bind_fun_some, ih]
def F151_T {β : Type} (k : Nat) (a0 : List (den erl)) (a1 : Int) (LP0 : Int → Int → List (den erl) → Option β) : Option β := LP0 a1 0 a0
def F151 (k : Nat) (a0 : List (den erl)) (a1 : Int) : Option (Int × List (den erl)) := F151_T k a0 a1 (fun x1_0 x5_0 m0_0 => F151_l0 k a0 a1 k x1_0 x5_0 m0_0)
theorem F151_st {β : Type} (k : Nat) (a0 : List (den erl)) (a1 : Int) (K : A × List (List Leaf) → Option β) : evalF (F151_E k) Try.f151 (F151_a a0 a1) K =
    F151_T k a0 a1 (fun x1_0 x5_0 m0_0 => loopG (F151_E k) Try.f151 [1, 0, 1, 0] 0 (kontAt (F151_E k) [1, 0, 1, 0] (bodyOf Try.f151) 0 (endC (F151_E k) Try.f151 (F151_a a0 a1) K)) k (F151_s0 a0 a1 x1_0 x5_0 m0_0)) := by kernel_rfl
theorem F151_ev {β : Type} (k : Nat) (a0 : List (den erl)) (a1 : Int) (K : A × List (List Leaf) → Option β) : evalF (F151_E k) Try.f151 (F151_a a0 a1) K = (F151 k a0 a1).bind fun r => K (F151_r r) := by
  rw [F151_st, F151]
  simp only [F151_T, bind_cond, Option.bind_assoc, Option.bind_some, Option.bind_none, Option.bind_fun_some, F151_l0_lp]
theorem F151_con (k : Nat) (a0 : List (den erl)) (a1 : Int) : Contract Try.prog 151 (F151_a a0 a1) ⟨F151 k a0 a1, F151_r⟩ := con_of (envOk .none _ _ _ _) mixed Try.func151 rfl rfl (F151_ev k a0 a1 some)
def F151_sh : List AK := [.one (.b (.sl .own erl)), .one (.l (.int .i64))]
def F151_p (k : Nat) : List Arg → Option CR := cle F151_sh fun x => ⟨F151 k x.1 x.2.1, F151_r⟩
theorem F151_q (k : Nat) : ∀ xs cr, F151_p k xs = some cr → Contract Try.prog 151 xs cr := cle_ok fun x => F151_con k _ _
theorem F151_f : FnOk Try.prog 151 := .of (by kernel_rfl)
/-! 92: loop.example/netstack/laws.markEar -/
def F92_t (k : Nat) : Tab := entT 43 (F43_p k) <| entT 151 (F151_p k) <| noTab
abbrev F92_E (k : Nat) : Env := env (F92_t k) noHint .own [(true, 2), (true, 3)] k
abbrev F92_a (a0_0 a0_1 : Int) (a0_2 : List (den (.int .u8))) (a0_3 : List (den erl)) (a1 : Int) : List Arg := [.agg [.l (.v (.int .i64 a0_0)), .l (.v (.int .i64 a0_1)), .b (.s .own (.int .u8) a0_2), .b (.s .own erl a0_3)], .one (.l (.v (.int .i64 a1)))]
def F92_r (r : Int × List (den (.int .u8)) × List (den erl)) : A × List (List Leaf) := (.one (.v (.int .i64 r.1)), [[.s .own (.int .u8) r.2.1], [.s .own erl r.2.2]])
def F92 (k : Nat) (a0_0 a0_1 : Int) (a0_2 : List (den (.int .u8))) (a0_3 : List (den erl)) (a1 : Int) : Option (Int × List (den (.int .u8)) × List (den erl)) := (F43 k a0_2 a1).bind fun b1 => (F151 k a0_3 b1.1).bind fun b2 => some (b2.1, b1.2, b2.2)
theorem F92_st {β : Type} (k : Nat) (a0_0 a0_1 : Int) (a0_2 : List (den (.int .u8))) (a0_3 : List (den erl)) (a1 : Int) (K : A × List (List Leaf) → Option β) : evalF (F92_E k) Try.f92 (F92_a a0_0 a0_1 a0_2 a0_3 a1) K =
    (F43 k a0_2 a1).bind fun b1 => (F151 k a0_3 b1.1).bind fun b2 => K (.one (.v (.int .i64 b2.1)), [[.s .own (.int .u8) b1.2], [.s .own erl b2.2]]) := by kernel_rfl
theorem F92_ev {β : Type} (k : Nat) (a0_0 a0_1 : Int) (a0_2 : List (den (.int .u8))) (a0_3 : List (den erl)) (a1 : Int) (K : A × List (List Leaf) → Option β) : evalF (F92_E k) Try.f92 (F92_a a0_0 a0_1 a0_2 a0_3 a1) K = (F92 k a0_0 a0_1 a0_2 a0_3 a1).bind fun r => K (F92_r r) := by
  rw [F92_st, F92]
  simp only [F92_r, bind_cond, Option.bind_assoc, Option.bind_some, Option.bind_none, Option.bind_fun_some]
theorem F92_tOk (k : Nat) : TabFn Try.prog (F92_t k) := .ent (F43_q k) F43_f (.ent (F151_q k) F151_f (.none))
theorem F92_con (k : Nat) (a0_0 a0_1 : Int) (a0_2 : List (den (.int .u8))) (a0_3 : List (den erl)) (a1 : Int) : Contract Try.prog 92 (F92_a a0_0 a0_1 a0_2 a0_3 a1) ⟨F92 k a0_0 a0_1 a0_2 a0_3 a1, F92_r⟩ := con_of (envOk (F92_tOk k) _ _ _ _) mixed Try.func92 rfl rfl (F92_ev k a0_0 a0_1 a0_2 a0_3 a1 some)
def F92_sh : List AK := [.agg [.l (.int .i64), .l (.int .i64), .b (.sl .own (.int .u8)), .b (.sl .own erl)], .one (.l (.int .i64))]
def F92_p (k : Nat) : List Arg → Option CR := cle F92_sh fun x => ⟨F92 k x.1.1 x.1.2.1 x.1.2.2.1 x.1.2.2.2.1 x.2.1, F92_r⟩
theorem F92_q (k : Nat) : ∀ xs cr, F92_p k xs = some cr → Contract Try.prog 92 xs cr := cle_ok fun x => F92_con k _ _ _ _ _
theorem F92_f : FnOk Try.prog 92 := .of (by kernel_rfl)
/-! 25: loop.example/netstack/laws.markEnd -/
def F25_t (k : Nat) : Tab := entT 91 (F91_p k) <| entT 92 (F92_p k) <| noTab
abbrev F25_E (k : Nat) : Env := env (F25_t k) noHint .own [(true, 7), (true, 10), (true, 13), (true, 14)] k
abbrev F25_a (a0_0 a0_1 a0_2 a0_3 a0_4 a0_5 a0_6 : Int) (a0_7 : List (den (.int .u8))) (a0_8 a0_9 : Int) (a0_10 : List (den rng)) (a0_11 a0_12 : Int) (a0_13 : List (den (.int .u8))) (a0_14 : List (den erl)) (a0_15 a0_16 a0_17 : Bool) (a0_18 a0_19 a0_20 a0_21 a0_22 a0_23 a1 : Int) : List Arg := [.agg [.l (.v (.int .i64 a0_0)), .l (.v (.int .i64 a0_1)), .l (.v (.int .i64 a0_2)), .l (.v (.int .i64 a0_3)), .l (.v (.int .i64 a0_4)), .l (.v (.int .i64 a0_5)), .l (.v (.int .i64 a0_6)), .b (.s .own (.int .u8) a0_7), .l (.v (.int .i64 a0_8)), .l (.v (.int .i64 a0_9)), .b (.s .own rng a0_10), .l (.v (.int .i64 a0_11)), .l (.v (.int .i64 a0_12)), .b (.s .own (.int .u8) a0_13), .b (.s .own erl a0_14), .l (.v (.bool a0_15)), .l (.v (.bool a0_16)), .l (.v (.bool a0_17)), .l (.v (.int .i64 a0_18)), .l (.v (.int .i64 a0_19)), .l (.v (.int .i64 a0_20)), .l (.v (.int .i64 a0_21)), .l (.v (.int .i64 a0_22)), .l (.v (.int .i64 a0_23))], .one (.l (.v (.int .i64 a1)))]
def F25_r (r : Int × List (den (.int .u8)) × List (den rng) × List (den (.int .u8)) × List (den erl)) : A × List (List Leaf) := (.one (.v (.int .i64 r.1)), [[.s .own (.int .u8) r.2.1], [.s .own rng r.2.2.1], [.s .own (.int .u8) r.2.2.2.1], [.s .own erl r.2.2.2.2]])
def F25_T {β : Type} (k : Nat) (a0_0 a0_1 a0_2 a0_3 a0_4 a0_5 a0_6 : Int) (a0_7 : List (den (.int .u8))) (a0_8 a0_9 : Int) (a0_10 : List (den rng)) (a0_11 a0_12 : Int) (a0_13 : List (den (.int .u8))) (a0_14 : List (den erl)) (a0_15 a0_16 a0_17 : Bool) (a0_18 a0_19 a0_20 a0_21 a0_22 a0_23 a1 : Int) (RET : (Int × List (den (.int .u8)) × List (den rng) × List (den (.int .u8)) × List (den erl)) → Option β) : Option β := (F91 k a0_6 a0_7 a0_8 a0_9 a0_10 a1).bind fun b1 => (F92 k a0_11 a0_12 a0_13 a0_14 b1.1).bind fun b2 => RET (b2.1, b1.2.1, b1.2.2, b2.2.1, b2.2.2)
def F25 (k : Nat) (a0_0 a0_1 a0_2 a0_3 a0_4 a0_5 a0_6 : Int) (a0_7 : List (den (.int .u8))) (a0_8 a0_9 : Int) (a0_10 : List (den rng)) (a0_11 a0_12 : Int) (a0_13 : List (den (.int .u8))) (a0_14 : List (den erl)) (a0_15 a0_16 a0_17 : Bool) (a0_18 a0_19 a0_20 a0_21 a0_22 a0_23 a1 : Int) : Option (Int × List (den (.int .u8)) × List (den rng) × List (den (.int .u8)) × List (den erl)) := F25_T k a0_0 a0_1 a0_2 a0_3 a0_4 a0_5 a0_6 a0_7 a0_8 a0_9 a0_10 a0_11 a0_12 a0_13 a0_14 a0_15 a0_16 a0_17 a0_18 a0_19 a0_20 a0_21 a0_22 a0_23 a1 some
theorem F25_st {β : Type} (k : Nat) (a0_0 a0_1 a0_2 a0_3 a0_4 a0_5 a0_6 : Int) (a0_7 : List (den (.int .u8))) (a0_8 a0_9 : Int) (a0_10 : List (den rng)) (a0_11 a0_12 : Int) (a0_13 : List (den (.int .u8))) (a0_14 : List (den erl)) (a0_15 a0_16 a0_17 : Bool) (a0_18 a0_19 a0_20 a0_21 a0_22 a0_23 a1 : Int) (K : A × List (List Leaf) → Option β) : evalF (F25_E k) Try.f25 (F25_a a0_0 a0_1 a0_2 a0_3 a0_4 a0_5 a0_6 a0_7 a0_8 a0_9 a0_10 a0_11 a0_12 a0_13 a0_14 a0_15 a0_16 a0_17 a0_18 a0_19 a0_20 a0_21 a0_22 a0_23 a1) K =
    F25_T k a0_0 a0_1 a0_2 a0_3 a0_4 a0_5 a0_6 a0_7 a0_8 a0_9 a0_10 a0_11 a0_12 a0_13 a0_14 a0_15 a0_16 a0_17 a0_18 a0_19 a0_20 a0_21 a0_22 a0_23 a1 (fun r => K (F25_r r)) := by kernel_rfl
theorem F25_ev {β : Type} (k : Nat) (a0_0 a0_1 a0_2 a0_3 a0_4 a0_5 a0_6 : Int) (a0_7 : List (den (.int .u8))) (a0_8 a0_9 : Int) (a0_10 : List (den rng)) (a0_11 a0_12 : Int) (a0_13 : List (den (.int .u8))) (a0_14 : List (den erl)) (a0_15 a0_16 a0_17 : Bool) (a0_18 a0_19 a0_20 a0_21 a0_22 a0_23 a1 : Int) (K : A × List (List Leaf) → Option β) : evalF (F25_E k) Try.f25 (F25_a a0_0 a0_1 a0_2 a0_3 a0_4 a0_5 a0_6 a0_7 a0_8 a0_9 a0_10 a0_11 a0_12 a0_13 a0_14 a0_15 a0_16 a0_17 a0_18 a0_19 a0_20 a0_21 a0_22 a0_23 a1) K = (F25 k a0_0 a0_1 a0_2 a0_3 a0_4 a0_5 a0_6 a0_7 a0_8 a0_9 a0_10 a0_11 a0_12 a0_13 a0_14 a0_15 a0_16 a0_17 a0_18 a0_19 a0_20 a0_21 a0_22 a0_23 a1).bind fun r => K (F25_r r) := by
  rw [F25_st, F25]
  simp only [F25_T, bind_cond, Option.bind_assoc, Option.bind_some, Option.bind_none, Option.bind_fun_some]
theorem F25_tOk (k : Nat) : TabFn Try.prog (F25_t k) := .ent (F91_q k) F91_f (.ent (F92_q k) F92_f (.none))
theorem F25_con (k : Nat) (a0_0 a0_1 a0_2 a0_3 a0_4 a0_5 a0_6 : Int) (a0_7 : List (den (.int .u8))) (a0_8 a0_9 : Int) (a0_10 : List (den rng)) (a0_11 a0_12 : Int) (a0_13 : List (den (.int .u8))) (a0_14 : List (den erl)) (a0_15 a0_16 a0_17 : Bool) (a0_18 a0_19 a0_20 a0_21 a0_22 a0_23 a1 : Int) : Contract Try.prog 25 (F25_a a0_0 a0_1 a0_2 a0_3 a0_4 a0_5 a0_6 a0_7 a0_8 a0_9 a0_10 a0_11 a0_12 a0_13 a0_14 a0_15 a0_16 a0_17 a0_18 a0_19 a0_20 a0_21 a0_22 a0_23 a1) ⟨F25 k a0_0 a0_1 a0_2 a0_3 a0_4 a0_5 a0_6 a0_7 a0_8 a0_9 a0_10 a0_11 a0_12 a0_13 a0_14 a0_15 a0_16 a0_17 a0_18 a0_19 a0_20 a0_21 a0_22 a0_23 a1, F25_r⟩ := con_of (envOk (F25_tOk k) _ _ _ _) mixed Try.func25 rfl rfl (F25_ev k a0_0 a0_1 a0_2 a0_3 a0_4 a0_5 a0_6 a0_7 a0_8 a0_9 a0_10 a0_11 a0_12 a0_13 a0_14 a0_15 a0_16 a0_17 a0_18 a0_19 a0_20 a0_21 a0_22 a0_23 a1 some)
def F25_sh : List AK := [.agg [.l (.int .i64), .l (.int .i64), .l (.int .i64), .l (.int .i64), .l (.int .i64), .l (.int .i64), .l (.int .i64), .b (.sl .own (.int .u8)), .l (.int .i64), .l (.int .i64), .b (.sl .own rng), .l (.int .i64), .l (.int .i64), .b (.sl .own (.int .u8)), .b (.sl .own erl), .l (.bool), .l (.bool), .l (.bool), .l (.int .i64), .l (.int .i64), .l (.int .i64), .l (.int .i64), .l (.int .i64), .l (.int .i64)], .one (.l (.int .i64))]
def F25_p (k : Nat) : List Arg → Option CR := cle F25_sh fun x => ⟨F25 k x.1.1 x.1.2.1 x.1.2.2.1 x.1.2.2.2.1 x.1.2.2.2.2.1 x.1.2.2.2.2.2.1 x.1.2.2.2.2.2.2.1 x.1.2.2.2.2.2.2.2.1 x.1.2.2.2.2.2.2.2.2.1 x.1.2.2.2.2.2.2.2.2.2.1 x.1.2.2.2.2.2.2.2.2.2.2.1 x.1.2.2.2.2.2.2.2.2.2.2.2.1 x.1.2.2.2.2.2.2.2.2.2.2.2.2.1 x.1.2.2.2.2.2.2.2.2.2.2.2.2.2.1 x.1.2.2.2.2.2.2.2.2.2.2.2.2.2.2.1 x.1.2.2.2.2.2.2.2.2.2.2.2.2.2.2.2.1 x.1.2.2.2.2.2.2.2.2.2.2.2.2.2.2.2.2.1 x.1.2.2.2.2.2.2.2.2.2.2.2.2.2.2.2.2.2.1 x.1.2.2.2.2.2.2.2.2.2.2.2.2.2.2.2.2.2.2.1 x.1.2.2.2.2.2.2.2.2.2.2.2.2.2.2.2.2.2.2.2.1 x.1.2.2.2.2.2.2.2.2.2.2.2.2.2.2.2.2.2.2.2.2.1 x.1.2.2.2.2.2.2.2.2.2.2.2.2.2.2.2.2.2.2.2.2.2.1 x.1.2.2.2.2.2.2.2.2.2.2.2.2.2.2.2.2.2.2.2.2.2.2.1 x.1.2.2.2.2.2.2.2.2.2.2.2.2.2.2.2.2.2.2.2.2.2.2.2.1 x.2.1, F25_r⟩
theorem F25_q (k : Nat) : ∀ xs cr, F25_p k xs = some cr → Contract Try.prog 25 xs cr := cle_ok fun x => F25_con k _ _ _ _ _ _ _ _ _ _ _ _ _ _ _ _ _ _ _ _ _ _ _ _ _
theorem F25_f : FnOk Try.prog 25 := .of (by kernel_rfl)
/-! 26: loop.example/netstack/laws.markSegmentS -/
def F26_h : Nat → Hint
  | 0 => ⟨[(0, .plain), (1, .plain), (5, .plain)], [(0, .plain)]⟩
  | _ => ⟨[], []⟩
def F26_t (k : Nat) : Tab := entT 71 (F71_p k) <| entT 43 (F43_p k) <| noTab
abbrev F26_E (k : Nat) : Env := env (F26_t k) F26_h .own [(true, 0)] k
abbrev F26_a (a0 : List (den seg)) (a1 : Int) : List Arg := [.one (.b (.s .own seg a0)), .one (.l (.v (.int .i64 a1)))]
def F26_r (r : Int × List (den seg)) : A × List (List Leaf) := (.one (.v (.int .i64 r.1)), [[.s .own seg r.2]])
def F26_s0 (a0 : List (den seg)) (a1 : Int) (x1_0 x5_0 : Int) (m0_0 : List (den seg)) : St := ⟨(.one (.a (.cell 0) 0 0 none)) :: (.one (.v (.int .i64 x1_0))) :: dz 3 ((.one (.v (.int .i64 x5_0))) :: dz 92 []), [(0, ⟨.s .own seg m0_0, 0, 0⟩)]⟩
def F26_l0_T {β : Type} (k : Nat) (a0 : List (den seg)) (a1 : Int) (NX : Int → Int → List (den seg) → Option β) (RET : (Int × List (den seg)) → Option β) (x1_0 x5_0 : Int) (m0_0 : List (den seg)) : Option β := cond (decide (x5_0 < ((m0_0.length : Nat) : Int))) (cond (decide (0 ≤ x5_0)) (cond (decide (x5_0 < ((m0_0.length : Nat) : Int))) ((sto (m0_0.set x5_0.toNat (x1_0, ((atI m0_0 x5_0).2).1, (((atI m0_0 x5_0).2).2).1, ((((atI m0_0 x5_0).2).2).2).1, (((((atI m0_0 x5_0).2).2).2).2).1, ((((((atI m0_0 x5_0).2).2).2).2).2).1, (((((((atI m0_0 x5_0).2).2).2).2).2).2).1, ((((((((atI m0_0 x5_0).2).2).2).2).2).2).2).1, (((((((((atI m0_0 x5_0).2).2).2).2).2).2).2).2).1, ((((((((((atI m0_0 x5_0).2).2).2).2).2).2).2).2).2)))).bind fun b1 => cond (decide (0 ≤ x5_0)) (cond (decide (x5_0 < ((b1.length : Nat) : Int))) ((sto (b1.set x5_0.toNat ((atI b1 x5_0).1, IntKind.i64.wrap (x1_0 + 1), (((atI b1 x5_0).2).2).1, ((((atI b1 x5_0).2).2).2).1, (((((atI b1 x5_0).2).2).2).2).1, ((((((atI b1 x5_0).2).2).2).2).2).1, (((((((atI b1 x5_0).2).2).2).2).2).2).1, ((((((((atI b1 x5_0).2).2).2).2).2).2).2).1, (((((((((atI b1 x5_0).2).2).2).2).2).2).2).2).1, ((((((((((atI b1 x5_0).2).2).2).2).2).2).2).2).2)))).bind fun b2 => cond (decide (0 ≤ x5_0)) (cond (decide (x5_0 < ((b2.length : Nat) : Int))) ((sto (b2.set x5_0.toNat ((atI b2 x5_0).1, ((atI b2 x5_0).2).1, IntKind.i64.wrap ((IntKind.i64.wrap (x1_0 + 1)) + 1), ((((atI b2 x5_0).2).2).2).1, (((((atI b2 x5_0).2).2).2).2).1, ((((((atI b2 x5_0).2).2).2).2).2).1, (((((((atI b2 x5_0).2).2).2).2).2).2).1, ((((((((atI b2 x5_0).2).2).2).2).2).2).2).1, (((((((((atI b2 x5_0).2).2).2).2).2).2).2).2).1, ((((((((((atI b2 x5_0).2).2).2).2).2).2).2).2).2)))).bind fun b3 => cond (decide (0 ≤ x5_0)) (cond (decide (x5_0 < ((b3.length : Nat) : Int))) ((sto (b3.set x5_0.toNat ((atI b3 x5_0).1, ((atI b3 x5_0).2).1, (((atI b3 x5_0).2).2).1, IntKind.i64.wrap ((IntKind.i64.wrap ((IntKind.i64.wrap (x1_0 + 1)) + 1)) + 1), (((((atI b3 x5_0).2).2).2).2).1, ((((((atI b3 x5_0).2).2).2).2).2).1, (((((((atI b3 x5_0).2).2).2).2).2).2).1, ((((((((atI b3 x5_0).2).2).2).2).2).2).2).1, (((((((((atI b3 x5_0).2).2).2).2).2).2).2).2).1, ((((((((((atI b3 x5_0).2).2).2).2).2).2).2).2).2)))).bind fun b4 => cond (decide (0 ≤ x5_0)) (cond (decide (x5_0 < ((b4.length : Nat) : Int))) ((sto (b4.set x5_0.toNat ((atI b4 x5_0).1, ((atI b4 x5_0).2).1, (((atI b4 x5_0).2).2).1, ((((atI b4 x5_0).2).2).2).1, IntKind.i64.wrap ((IntKind.i64.wrap ((IntKind.i64.wrap ((IntKind.i64.wrap (x1_0 + 1)) + 1)) + 1)) + 1), ((((((atI b4 x5_0).2).2).2).2).2).1, (((((((atI b4 x5_0).2).2).2).2).2).2).1, ((((((((atI b4 x5_0).2).2).2).2).2).2).2).1, (((((((((atI b4 x5_0).2).2).2).2).2).2).2).2).1, ((((((((((atI b4 x5_0).2).2).2).2).2).2).2).2).2)))).bind fun b5 => cond (decide (0 ≤ x5_0)) (cond (decide (x5_0 < ((b5.length : Nat) : Int))) ((sto (b5.set x5_0.toNat ((atI b5 x5_0).1, ((atI b5 x5_0).2).1, (((atI b5 x5_0).2).2).1, ((((atI b5 x5_0).2).2).2).1, (((((atI b5 x5_0).2).2).2).2).1, (((IntKind.i64.wrap ((IntKind.i64.wrap ((IntKind.i64.wrap ((IntKind.i64.wrap ((IntKind.i64.wrap (x1_0 + 1)) + 1)) + 1)) + 1)) + 1)).tmod 3) == 0), (((((((atI b5 x5_0).2).2).2).2).2).2).1, ((((((((atI b5 x5_0).2).2).2).2).2).2).2).1, (((((((((atI b5 x5_0).2).2).2).2).2).2).2).2).1, ((((((((((atI b5 x5_0).2).2).2).2).2).2).2).2).2)))).bind fun b6 => cond (decide (0 ≤ x5_0)) (cond (decide (x5_0 < ((b6.length : Nat) : Int))) ((sto (b6.set x5_0.toNat ((atI b6 x5_0).1, ((atI b6 x5_0).2).1, (((atI b6 x5_0).2).2).1, ((((atI b6 x5_0).2).2).2).1, (((((atI b6 x5_0).2).2).2).2).1, ((((((atI b6 x5_0).2).2).2).2).2).1, (((IntKind.i64.wrap ((IntKind.i64.wrap ((IntKind.i64.wrap ((IntKind.i64.wrap ((IntKind.i64.wrap ((IntKind.i64.wrap (x1_0 + 1)) + 1)) + 1)) + 1)) + 1)) + 1)).tmod 3) == 0), ((((((((atI b6 x5_0).2).2).2).2).2).2).2).1, (((((((((atI b6 x5_0).2).2).2).2).2).2).2).2).1, ((((((((((atI b6 x5_0).2).2).2).2).2).2).2).2).2)))).bind fun b7 => cond (decide (0 ≤ x5_0)) (cond (decide (x5_0 < ((b7.length : Nat) : Int))) ((sto (b7.set x5_0.toNat ((atI b7 x5_0).1, ((atI b7 x5_0).2).1, (((atI b7 x5_0).2).2).1, ((((atI b7 x5_0).2).2).2).1, (((((atI b7 x5_0).2).2).2).2).1, ((((((atI b7 x5_0).2).2).2).2).2).1, (((((((atI b7 x5_0).2).2).2).2).2).2).1, (((IntKind.i64.wrap ((IntKind.i64.wrap ((IntKind.i64.wrap ((IntKind.i64.wrap ((IntKind.i64.wrap ((IntKind.i64.wrap ((IntKind.i64.wrap (x1_0 + 1)) + 1)) + 1)) + 1)) + 1)) + 1)) + 1)).tmod 3) == 0), (((((((((atI b7 x5_0).2).2).2).2).2).2).2).2).1, ((((((((((atI b7 x5_0).2).2).2).2).2).2).2).2).2)))).bind fun b8 => cond (decide (0 ≤ x5_0)) (cond (decide (x5_0 < ((b8.length : Nat) : Int))) ((sto (b8.set x5_0.toNat ((atI b8 x5_0).1, ((atI b8 x5_0).2).1, (((atI b8 x5_0).2).2).1, ((((atI b8 x5_0).2).2).2).1, (((((atI b8 x5_0).2).2).2).2).1, ((((((atI b8 x5_0).2).2).2).2).2).1, (((((((atI b8 x5_0).2).2).2).2).2).2).1, ((((((((atI b8 x5_0).2).2).2).2).2).2).2).1, (((IntKind.i64.wrap ((IntKind.i64.wrap ((IntKind.i64.wrap ((IntKind.i64.wrap ((IntKind.i64.wrap ((IntKind.i64.wrap ((IntKind.i64.wrap ((IntKind.i64.wrap (x1_0 + 1)) + 1)) + 1)) + 1)) + 1)) + 1)) + 1)) + 1)).tmod 3) == 0), ((((((((((atI b8 x5_0).2).2).2).2).2).2).2).2).2)))).bind fun b9 => cond (decide (0 ≤ x5_0)) (cond (decide (x5_0 < ((b9.length : Nat) : Int))) ((F71 k (((((((((((atI b9 x5_0).2).2).2).2).2).2).2).2).2).1) (IntKind.i64.wrap ((IntKind.i64.wrap ((IntKind.i64.wrap ((IntKind.i64.wrap ((IntKind.i64.wrap ((IntKind.i64.wrap ((IntKind.i64.wrap ((IntKind.i64.wrap ((IntKind.i64.wrap (x1_0 + 1)) + 1)) + 1)) + 1)) + 1)) + 1)) + 1)) + 1)) + 1))).bind fun b10 => cond (decide (0 ≤ x5_0)) (cond (decide (x5_0 < (((b9.set x5_0.toNat ((atI b9 x5_0).1, ((atI b9 x5_0).2).1, (((atI b9 x5_0).2).2).1, ((((atI b9 x5_0).2).2).2).1, (((((atI b9 x5_0).2).2).2).2).1, ((((((atI b9 x5_0).2).2).2).2).2).1, (((((((atI b9 x5_0).2).2).2).2).2).2).1, ((((((((atI b9 x5_0).2).2).2).2).2).2).2).1, (((((((((atI b9 x5_0).2).2).2).2).2).2).2).2).1, b10.2, ((((((((((atI b9 x5_0).2).2).2).2).2).2).2).2).2).2)).length : Nat) : Int))) ((F43 k (((((((((((atI (b9.set x5_0.toNat ((atI b9 x5_0).1, ((atI b9 x5_0).2).1, (((atI b9 x5_0).2).2).1, ((((atI b9 x5_0).2).2).2).1, (((((atI b9 x5_0).2).2).2).2).1, ((((((atI b9 x5_0).2).2).2).2).2).1, (((((((atI b9 x5_0).2).2).2).2).2).2).1, ((((((((atI b9 x5_0).2).2).2).2).2).2).2).1, (((((((((atI b9 x5_0).2).2).2).2).2).2).2).2).1, b10.2, ((((((((((atI b9 x5_0).2).2).2).2).2).2).2).2).2).2)) x5_0).2).2).2).2).2).2).2).2).2).2) b10.1).bind fun b11 => NX b11.1 (IntKind.i64.wrap (x5_0 + 1)) ((b9.set x5_0.toNat ((atI b9 x5_0).1, ((atI b9 x5_0).2).1, (((atI b9 x5_0).2).2).1, ((((atI b9 x5_0).2).2).2).1, (((((atI b9 x5_0).2).2).2).2).1, ((((((atI b9 x5_0).2).2).2).2).2).1, (((((((atI b9 x5_0).2).2).2).2).2).2).1, ((((((((atI b9 x5_0).2).2).2).2).2).2).2).1, (((((((((atI b9 x5_0).2).2).2).2).2).2).2).2).1, b10.2, ((((((((((atI b9 x5_0).2).2).2).2).2).2).2).2).2).2)).set x5_0.toNat ((atI (b9.set x5_0.toNat ((atI b9 x5_0).1, ((atI b9 x5_0).2).1, (((atI b9 x5_0).2).2).1, ((((atI b9 x5_0).2).2).2).1, (((((atI b9 x5_0).2).2).2).2).1, ((((((atI b9 x5_0).2).2).2).2).2).1, (((((((atI b9 x5_0).2).2).2).2).2).2).1, ((((((((atI b9 x5_0).2).2).2).2).2).2).2).1, (((((((((atI b9 x5_0).2).2).2).2).2).2).2).2).1, b10.2, ((((((((((atI b9 x5_0).2).2).2).2).2).2).2).2).2).2)) x5_0).1, ((atI (b9.set x5_0.toNat ((atI b9 x5_0).1, ((atI b9 x5_0).2).1, (((atI b9 x5_0).2).2).1, ((((atI b9 x5_0).2).2).2).1, (((((atI b9 x5_0).2).2).2).2).1, ((((((atI b9 x5_0).2).2).2).2).2).1, (((((((atI b9 x5_0).2).2).2).2).2).2).1, ((((((((atI b9 x5_0).2).2).2).2).2).2).2).1, (((((((((atI b9 x5_0).2).2).2).2).2).2).2).2).1, b10.2, ((((((((((atI b9 x5_0).2).2).2).2).2).2).2).2).2).2)) x5_0).2).1, (((atI (b9.set x5_0.toNat ((atI b9 x5_0).1, ((atI b9 x5_0).2).1, (((atI b9 x5_0).2).2).1, ((((atI b9 x5_0).2).2).2).1, (((((atI b9 x5_0).2).2).2).2).1, ((((((atI b9 x5_0).2).2).2).2).2).1, (((((((atI b9 x5_0).2).2).2).2).2).2).1, ((((((((atI b9 x5_0).2).2).2).2).2).2).2).1, (((((((((atI b9 x5_0).2).2).2).2).2).2).2).2).1, b10.2, ((((((((((atI b9 x5_0).2).2).2).2).2).2).2).2).2).2)) x5_0).2).2).1, ((((atI (b9.set x5_0.toNat ((atI b9 x5_0).1, ((atI b9 x5_0).2).1, (((atI b9 x5_0).2).2).1, ((((atI b9 x5_0).2).2).2).1, (((((atI b9 x5_0).2).2).2).2).1, ((((((atI b9 x5_0).2).2).2).2).2).1, (((((((atI b9 x5_0).2).2).2).2).2).2).1, ((((((((atI b9 x5_0).2).2).2).2).2).2).2).1, (((((((((atI b9 x5_0).2).2).2).2).2).2).2).2).1, b10.2, ((((((((((atI b9 x5_0).2).2).2).2).2).2).2).2).2).2)) x5_0).2).2).2).1, (((((atI (b9.set x5_0.toNat ((atI b9 x5_0).1, ((atI b9 x5_0).2).1, (((atI b9 x5_0).2).2).1, ((((atI b9 x5_0).2).2).2).1, (((((atI b9 x5_0).2).2).2).2).1, ((((((atI b9 x5_0).2).2).2).2).2).1, (((((((atI b9 x5_0).2).2).2).2).2).2).1, ((((((((atI b9 x5_0).2).2).2).2).2).2).2).1, (((((((((atI b9 x5_0).2).2).2).2).2).2).2).2).1, b10.2, ((((((((((atI b9 x5_0).2).2).2).2).2).2).2).2).2).2)) x5_0).2).2).2).2).1, ((((((atI (b9.set x5_0.toNat ((atI b9 x5_0).1, ((atI b9 x5_0).2).1, (((atI b9 x5_0).2).2).1, ((((atI b9 x5_0).2).2).2).1, (((((atI b9 x5_0).2).2).2).2).1, ((((((atI b9 x5_0).2).2).2).2).2).1, (((((((atI b9 x5_0).2).2).2).2).2).2).1, ((((((((atI b9 x5_0).2).2).2).2).2).2).2).1, (((((((((atI b9 x5_0).2).2).2).2).2).2).2).2).1, b10.2, ((((((((((atI b9 x5_0).2).2).2).2).2).2).2).2).2).2)) x5_0).2).2).2).2).2).1, (((((((atI (b9.set x5_0.toNat ((atI b9 x5_0).1, ((atI b9 x5_0).2).1, (((atI b9 x5_0).2).2).1, ((((atI b9 x5_0).2).2).2).1, (((((atI b9 x5_0).2).2).2).2).1, ((((((atI b9 x5_0).2).2).2).2).2).1, (((((((atI b9 x5_0).2).2).2).2).2).2).1, ((((((((atI b9 x5_0).2).2).2).2).2).2).2).1, (((((((((atI b9 x5_0).2).2).2).2).2).2).2).2).1, b10.2, ((((((((((atI b9 x5_0).2).2).2).2).2).2).2).2).2).2)) x5_0).2).2).2).2).2).2).1, ((((((((atI (b9.set x5_0.toNat ((atI b9 x5_0).1, ((atI b9 x5_0).2).1, (((atI b9 x5_0).2).2).1, ((((atI b9 x5_0).2).2).2).1, (((((atI b9 x5_0).2).2).2).2).1, ((((((atI b9 x5_0).2).2).2).2).2).1, (((((((atI b9 x5_0).2).2).2).2).2).2).1, ((((((((atI b9 x5_0).2).2).2).2).2).2).2).1, (((((((((atI b9 x5_0).2).2).2).2).2).2).2).2).1, b10.2, ((((((((((atI b9 x5_0).2).2).2).2).2).2).2).2).2).2)) x5_0).2).2).2).2).2).2).2).1, (((((((((atI (b9.set x5_0.toNat ((atI b9 x5_0).1, ((atI b9 x5_0).2).1, (((atI b9 x5_0).2).2).1, ((((atI b9 x5_0).2).2).2).1, (((((atI b9 x5_0).2).2).2).2).1, ((((((atI b9 x5_0).2).2).2).2).2).1, (((((((atI b9 x5_0).2).2).2).2).2).2).1, ((((((((atI b9 x5_0).2).2).2).2).2).2).2).1, (((((((((atI b9 x5_0).2).2).2).2).2).2).2).2).1, b10.2, ((((((((((atI b9 x5_0).2).2).2).2).2).2).2).2).2).2)) x5_0).2).2).2).2).2).2).2).2).1, ((((((((((atI (b9.set x5_0.toNat ((atI b9 x5_0).1, ((atI b9 x5_0).2).1, (((atI b9 x5_0).2).2).1, ((((atI b9 x5_0).2).2).2).1, (((((atI b9 x5_0).2).2).2).2).1, ((((((atI b9 x5_0).2).2).2).2).2).1, (((((((atI b9 x5_0).2).2).2).2).2).2).1, ((((((((atI b9 x5_0).2).2).2).2).2).2).2).1, (((((((((atI b9 x5_0).2).2).2).2).2).2).2).2).1, b10.2, ((((((((((atI b9 x5_0).2).2).2).2).2).2).2).2).2).2)) x5_0).2).2).2).2).2).2).2).2).2).1, b11.2))) none) none) none) none) none) none) none) none) none) none) none) none) none) none) none) none) none) none) none) none) none) none) (RET (x1_0, m0_0))
def F26_l0 (k : Nat) (a0 : List (den seg)) (a1 : Int) : Nat → Int → Int → List (den seg) → Option (Int × List (den seg))
  | 0, _, _, _ => none
  | n + 1, x1_0, x5_0, m0_0 => F26_l0_T k a0 a1 (fun x1_0 x5_0 m0_0 => F26_l0 k a0 a1 n x1_0 x5_0 m0_0) some x1_0 x5_0 m0_0
theorem F26_l0_rd {β : Type} (k n : Nat) (a0 : List (den seg)) (a1 : Int) (x1_0 x5_0 : Int) (m0_0 : List (den seg)) (K : A × List (List Leaf) → Option β) :
    loopG (F26_E k) Try.f26 [1, 0, 1, 0] 0 (kontAt (F26_E k) [1, 0, 1, 0] (bodyOf Try.f26) 0 (endC (F26_E k) Try.f26 (F26_a a0 a1) K)) (n + 1) (F26_s0 a0 a1 x1_0 x5_0 m0_0) =
    F26_l0_T k a0 a1 (fun x1_0 x5_0 m0_0 => loopG (F26_E k) Try.f26 [1, 0, 1, 0] 0 (kontAt (F26_E k) [1, 0, 1, 0] (bodyOf Try.f26) 0 (endC (F26_E k) Try.f26 (F26_a a0 a1) K)) n (F26_s0 a0 a1 x1_0 x5_0 m0_0)) (fun r => K (F26_r r)) x1_0 x5_0 m0_0 := by kernel_rfl
theorem F26_l0_lp {β : Type} (k : Nat) (a0 : List (den seg)) (a1 : Int) (K : A × List (List Leaf) → Option β) (n : Nat) : ∀ (x1_0 x5_0 : Int) (m0_0 : List (den seg)), loopG (F26_E k) Try.f26 [1, 0, 1, 0] 0 (kontAt (F26_E k) [1, 0, 1, 0] (bodyOf Try.f26) 0 (endC (F26_E k) Try.f26 (F26_a a0 a1) K)) n (F26_s0 a0 a1 x1_0 x5_0 m0_0) =
    (F26_l0 k a0 a1 n x1_0 x5_0 m0_0).bind fun r => K (F26_r r) := by
  induction n with
  | zero => intros; rfl
  | succ n ih =>
    intros
    rw [F26_l0_rd, F26_l0]
    simp only [F26_l0_T, bind_cond, Option.bind_assoc, Option.bind_some, Option.bind_none, Option.bind_fun_some, ih]
def F26_T {β : Type} (k : Nat) (a0 : List (den seg)) (a1 : Int) (LP0 : Int → Int → List (den seg) → Option β) : Option β := LP0 a1 0 a0
def F26 (k : Nat) (a0 : List (den seg)) (a1 : Int) : Option (Int × List (den seg)) := F26_T k a0 a1 (fun x1_0 x5_0 m0_0 => F26_l0 k a0 a1 k x1_0 x5_0 m0_0)
theorem F26_st {β : Type} (k : Nat) (a0 : List (den seg)) (a1 : Int) (K : A × List (List Leaf) → Option β) : evalF (F26_E k) Try.f26 (F26_a a0 a1) K =
    F26_T k a0 a1 (fun x1_0 x5_0 m0_0 => loopG (F26_E k) Try.f26 [1, 0, 1, 0] 0 (kontAt (F26_E k) [1, 0, 1, 0] (bodyOf Try.f26) 0 (endC (F26_E k) Try.f26 (F26_a a0 a1) K)) k (F26_s0 a0 a1 x1_0 x5_0 m0_0)) := by kernel_rfl
theorem F26_ev {β : Type} (k : Nat) (a0 : List (den seg)) (a1 : Int) (K : A × List (List Leaf) → Option β) : evalF (F26_E k) Try.f26 (F26_a a0 a1) K = (F26 k a0 a1).bind fun r => K (F26_r r) := by
  rw [F26_st, F26]
  simp only [F26_T, bind_cond, Option.bind_assoc, Option.bind_some, Option.bind_none, Option.bind_fun_some, F26_l0_lp]
theorem F26_tOk (k : Nat) : TabFn Try.prog (F26_t k) := .ent (F71_q k) F71_f (.ent (F43_q k) F43_f (.none))
theorem F26_con (k : Nat) (a0 : List (den seg)) (a1 : Int) : Contract Try.prog 26 (F26_a a0 a1) ⟨F26 k a0 a1, F26_r⟩ := con_of (envOk (F26_tOk k) _ _ _ _) mixed Try.func26 rfl rfl (F26_ev k a0 a1 some)
def F26_sh : List AK := [.one (.b (.sl .own seg)), .one (.l (.int .i64))]
def F26_p (k : Nat) : List Arg → Option CR := cle F26_sh fun x => ⟨F26 k x.1 x.2.1, F26_r⟩
theorem F26_q (k : Nat) : ∀ xs cr, F26_p k xs = some cr → Contract Try.prog 26 xs cr := cle_ok fun x => F26_con k _ _
theorem F26_f : FnOk Try.prog 26 := .of (by kernel_rfl)
/-! 73: loop.example/netstack/laws.heldByteS -/
def F73_h : Nat → Hint
  | 0 => ⟨[(0, .plain), (1, .plain), (5, .plain)], []⟩
  | _ => ⟨[], []⟩
abbrev F73_E (k : Nat) : Env := env noTab F73_h .own [] k
abbrev F73_a (a0 : List (den (.int .u8))) (a1 : Int) : List Arg := [.one (.l (.s .ro (.int .u8) a0)), .one (.l (.v (.int .i64 a1)))]
def F73_r (r : Int) : A × List (List Leaf) := (.one (.v (.int .i64 r)), [])
def F73_s0 (a0 : List (den (.int .u8))) (a1 : Int) (x1_0 x5_0 : Int) : St := ⟨(.one (.s .ro (.int .u8) a0)) :: (.one (.v (.int .i64 x1_0))) :: dz 3 ((.one (.v (.int .i64 x5_0))) :: dz 16 []), []⟩
def F73_l0_T {β : Type} (k : Nat) (a0 : List (den (.int .u8))) (a1 : Int) (NX : Int → Int → Option β) (RET : Int → Option β) (x1_0 x5_0 : Int) : Option β := cond (decide (x5_0 < ((a0.length : Nat) : Int))) (cond (decide (0 ≤ x5_0)) (cond (decide (x5_0 < ((a0.length : Nat) : Int))) (cond ((atI a0 x5_0) != (IntKind.u8.wrap (x1_0))) (RET (-1)) (NX (IntKind.i64.wrap (x1_0 + 1)) (IntKind.i64.wrap (x5_0 + 1)))) none) none) (RET x1_0)
def F73_l0 (k : Nat) (a0 : List (den (.int .u8))) (a1 : Int) : Nat → Int → Int → Option (Int)
  | 0, _, _ => none
  | n + 1, x1_0, x5_0 => F73_l0_T k a0 a1 (fun x1_0 x5_0 => F73_l0 k a0 a1 n x1_0 x5_0) some x1_0 x5_0
theorem F73_l0_rd {β : Type} (k n : Nat) (a0 : List (den (.int .u8))) (a1 : Int) (x1_0 x5_0 : Int) (K : A × List (List Leaf) → Option β) :
    loopG (F73_E k) Try.f73 [1, 0, 1, 0] 0 (kontAt (F73_E k) [1, 0, 1, 0] (bodyOf Try.f73) 0 (endC (F73_E k) Try.f73 (F73_a a0 a1) K)) (n + 1) (F73_s0 a0 a1 x1_0 x5_0) =
    F73_l0_T k a0 a1 (fun x1_0 x5_0 => loopG (F73_E k) Try.f73 [1, 0, 1, 0] 0 (kontAt (F73_E k) [1, 0, 1, 0] (bodyOf Try.f73) 0 (endC (F73_E k) Try.f73 (F73_a a0 a1) K)) n (F73_s0 a0 a1 x1_0 x5_0)) (fun r => K (F73_r r)) x1_0 x5_0 := by kernel_rfl
theorem F73_l0_lp {β : Type} (k : Nat) (a0 : List (den (.int .u8))) (a1 : Int) (K : A × List (List Leaf) → Option β) (n : Nat) : ∀ (x1_0 x5_0 : Int), loopG (F73_E k) Try.f73 [1, 0, 1, 0] 0 (kontAt (F73_E k) [1, 0, 1, 0] (bodyOf Try.f73) 0 (endC (F73_E k) Try.f73 (F73_a a0 a1) K)) n (F73_s0 a0 a1 x1_0 x5_0) =
    (F73_l0 k a0 a1 n x1_0 x5_0).bind fun r => K (F73_r r) := by
  induction n with
  | zero => intros; rfl
  | succ n ih =>
    intros
    rw [F73_l0_rd, F73_l0]
    simp only [F73_l0_T, bind_cond, Option.bind_assoc, Option.bind_some, Option.bind_none, Option.bind_fun_some, ih]
def F73_T {β : Type} (k : Nat) (a0 : List (den (.int .u8))) (a1 : Int) (LP0 : Int → Int → Option β) : Option β := LP0 a1 0
def F73 (k : Nat) (a0 : List (den (.int .u8))) (a1 : Int) : Option (Int) := F73_T k a0 a1 (fun x1_0 x5_0 => F73_l0 k a0 a1 k x1_0 x5_0)
theorem F73_st {β : Type} (k : Nat) (a0 : List (den (.int .u8))) (a1 : Int) (K : A × List (List Leaf) → Option β) : evalF (F73_E k) Try.f73 (F73_a a0 a1) K =
    F73_T k a0 a1 (fun x1_0 x5_0 => loopG (F73_E k) Try.f73 [1, 0, 1, 0] 0 (kontAt (F73_E k) [1, 0, 1, 0] (bodyOf Try.f73) 0 (endC (F73_E k) Try.f73 (F73_a a0 a1) K)) k (F73_s0 a0 a1 x1_0 x5_0)) := by kernel_rfl
theorem F73_ev {β : Type} (k : Nat) (a0 : List (den (.int .u8))) (a1 : Int) (K : A × List (List Leaf) → Option β) : evalF (F73_E k) Try.f73 (F73_a a0 a1) K = (F73 k a0 a1).bind fun r => K (F73_r r) := by
  rw [F73_st, F73]
  simp only [F73_T, bind_cond, Option.bind_assoc, Option.bind_some, Option.bind_none, Option.bind_fun_some, F73_l0_lp]
theorem F73_con (k : Nat) (a0 : List (den (.int .u8))) (a1 : Int) : Contract Try.prog 73 (F73_a a0 a1) ⟨F73 k a0 a1, F73_r⟩ := con_of (envOk .none _ _ _ _) mixed Try.func73 rfl rfl (F73_ev k a0 a1 some)
def F73_sh : List AK := [.one (.l (.sl .ro (.int .u8))), .one (.l (.int .i64))]
def F73_p (k : Nat) : List Arg → Option CR := cle F73_sh fun x => ⟨F73 k x.1 x.2.1, F73_r⟩
theorem F73_q (k : Nat) : ∀ xs cr, F73_p k xs = some cr → Contract Try.prog 73 xs cr := cle_ok fun x => F73_con k _ _
theorem F73_f : FnOk Try.prog 73 := .of (by kernel_rfl)
/-! 72: loop.example/netstack/laws.heldRangeS -/
def F72_h : Nat → Hint
  | 0 => ⟨[(0, .plain), (1, .plain), (5, .plain)], []⟩
  | _ => ⟨[], []⟩
abbrev F72_E (k : Nat) : Env := env noTab F72_h .own [] k
abbrev F72_a (a0 : List (den rng)) (a1 : Int) : List Arg := [.one (.l (.s .ro rng a0)), .one (.l (.v (.int .i64 a1)))]
def F72_r (r : Int) : A × List (List Leaf) := (.one (.v (.int .i64 r)), [])
def F72_s0 (a0 : List (den rng)) (a1 : Int) (x1_0 x5_0 : Int) : St := ⟨(.one (.s .ro rng a0)) :: (.one (.v (.int .i64 x1_0))) :: dz 3 ((.one (.v (.int .i64 x5_0))) :: dz 25 []), []⟩
def F72_l0_T {β : Type} (k : Nat) (a0 : List (den rng)) (a1 : Int) (NX : Int → Int → Option β) (RET : Int → Option β) (x1_0 x5_0 : Int) : Option β := cond (decide (x5_0 < ((a0.length : Nat) : Int))) (cond (decide (0 ≤ x5_0)) (cond (decide (x5_0 < ((a0.length : Nat) : Int))) (cond (((atI a0 x5_0).1) != x1_0) (RET (-1)) (cond (decide (0 ≤ x5_0)) (cond (decide (x5_0 < ((a0.length : Nat) : Int))) (cond (((atI a0 x5_0).2) != (IntKind.i64.wrap (x1_0 + 1))) (RET (-1)) (NX (IntKind.i64.wrap ((IntKind.i64.wrap (x1_0 + 1)) + 1)) (IntKind.i64.wrap (x5_0 + 1)))) none) none)) none) none) (RET x1_0)
def F72_l0 (k : Nat) (a0 : List (den rng)) (a1 : Int) : Nat → Int → Int → Option (Int)
  | 0, _, _ => none
  | n + 1, x1_0, x5_0 => F72_l0_T k a0 a1 (fun x1_0 x5_0 => F72_l0 k a0 a1 n x1_0 x5_0) some x1_0 x5_0
theorem F72_l0_rd {β : Type} (k n : Nat) (a0 : List (den rng)) (a1 : Int) (x1_0 x5_0 : Int) (K : A × List (List Leaf) → Option β) :
    loopG (F72_E k) Try.f72 [1, 0, 1, 0] 0 (kontAt (F72_E k) [1, 0, 1, 0] (bodyOf Try.f72) 0 (endC (F72_E k) Try.f72 (F72_a a0 a1) K)) (n + 1) (F72_s0 a0 a1 x1_0 x5_0) =
    F72_l0_T k a0 a1 (fun x1_0 x5_0 => loopG (F72_E k) Try.f72 [1, 0, 1, 0] 0 (kontAt (F72_E k) [1, 0, 1, 0] (bodyOf Try.f72) 0 (endC (F72_E k) Try.f72 (F72_a a0 a1) K)) n (F72_s0 a0 a1 x1_0 x5_0)) (fun r => K (F72_r r)) x1_0 x5_0 := by kernel_rfl
theorem F72_l0_lp {β : Type} (k : Nat) (a0 : List (den rng)) (a1 : Int) (K : A × List (List Leaf) → Option β) (n : Nat) : ∀ (x1_0 x5_0 : Int), loopG (F72_E k) Try.f72 [1, 0, 1, 0] 0 (kontAt (F72_E k) [1, 0, 1, 0] (bodyOf Try.f72) 0 (endC (F72_E k) Try.f72 (F72_a a0 a1) K)) n (F72_s0 a0 a1 x1_0 x5_0) =
    (F72_l0 k a0 a1 n x1_0 x5_0).bind fun r => K (F72_r r) := by
  induction n with
  | zero => intros; rfl
  | succ n ih =>
    intros
    rw [F72_l0_rd, F72_l0]
    simp only [F72_l0_T, bind_cond, Option.bind_assoc, Option.bind_some, Option.bind_none, Option.bind_fun_some, ih]
def F72_T {β : Type} (k : Nat) (a0 : List (den rng)) (a1 : Int) (LP0 : Int → Int → Option β) : Option β := LP0 a1 0
def F72 (k : Nat) (a0 : List (den rng)) (a1 : Int) : Option (Int) := F72_T k a0 a1 (fun x1_0 x5_0 => F72_l0 k a0 a1 k x1_0 x5_0)
theorem F72_st {β : Type} (k : Nat) (a0 : List (den rng)) (a1 : Int) (K : A × List (List Leaf) → Option β) : evalF (F72_E k) Try.f72 (F72_a a0 a1) K =
    F72_T k a0 a1 (fun x1_0 x5_0 => loopG (F72_E k) Try.f72 [1, 0, 1, 0] 0 (kontAt (F72_E k) [1, 0, 1, 0] (bodyOf Try.f72) 0 (endC (F72_E k) Try.f72 (F72_a a0 a1) K)) k (F72_s0 a0 a1 x1_0 x5_0)) := by kernel_rfl
theorem F72_ev {β : Type} (k : Nat) (a0 : List (den rng)) (a1 : Int) (K : A × List (List Leaf) → Option β) : evalF (F72_E k) Try.f72 (F72_a a0 a1) K = (F72 k a0 a1).bind fun r => K (F72_r r) := by
  rw [F72_st, F72]
  simp only [F72_T, bind_cond, Option.bind_assoc, Option.bind_some, Option.bind_none, Option.bind_fun_some, F72_l0_lp]
theorem F72_con (k : Nat) (a0 : List (den rng)) (a1 : Int) : Contract Try.prog 72 (F72_a a0 a1) ⟨F72 k a0 a1, F72_r⟩ := con_of (envOk .none _ _ _ _) mixed Try.func72 rfl rfl (F72_ev k a0 a1 some)
def F72_sh : List AK := [.one (.l (.sl .ro rng)), .one (.l (.int .i64))]
def F72_p (k : Nat) : List Arg → Option CR := cle F72_sh fun x => ⟨F72 k x.1 x.2.1, F72_r⟩
theorem F72_q (k : Nat) : ∀ xs cr, F72_p k xs = some cr → Contract Try.prog 72 xs cr := cle_ok fun x => F72_con k _ _
theorem F72_f : FnOk Try.prog 72 := .of (by kernel_rfl)
/-! 93: loop.example/netstack/laws.heldMouth -/
def F93_t (k : Nat) : Tab := entT 73 (F73_p k) <| entT 72 (F72_p k) <| noTab
abbrev F93_E (k : Nat) : Env := env (F93_t k) noHint .own [] k
abbrev F93_a (a0_0 : Int) (a0_1 : List (den (.int .u8))) (a0_2 a0_3 : Int) (a0_4 : List (den rng)) (a1 : Int) : List Arg := [.agg [.l (.v (.int .i64 a0_0)), .l (.s .ro (.int .u8) a0_1), .l (.v (.int .i64 a0_2)), .l (.v (.int .i64 a0_3)), .l (.s .ro rng a0_4)], .one (.l (.v (.int .i64 a1)))]
def F93_r (r : Int) : A × List (List Leaf) := (.one (.v (.int .i64 r)), [])
def F93_T {β : Type} (k : Nat) (a0_0 : Int) (a0_1 : List (den (.int .u8))) (a0_2 a0_3 : Int) (a0_4 : List (den rng)) (a1 : Int) (RET : Int → Option β) : Option β := (F73 k a0_1 a1).bind fun b1 => cond (decide (b1 < 0)) (RET (-1)) ((F72 k a0_4 b1).bind fun b2 => cond (decide (b2 < 0)) (RET (-1)) (RET b2))
def F93 (k : Nat) (a0_0 : Int) (a0_1 : List (den (.int .u8))) (a0_2 a0_3 : Int) (a0_4 : List (den rng)) (a1 : Int) : Option (Int) := F93_T k a0_0 a0_1 a0_2 a0_3 a0_4 a1 some
theorem F93_st {β : Type} (k : Nat) (a0_0 : Int) (a0_1 : List (den (.int .u8))) (a0_2 a0_3 : Int) (a0_4 : List (den rng)) (a1 : Int) (K : A × List (List Leaf) → Option β) : evalF (F93_E k) Try.f93 (F93_a a0_0 a0_1 a0_2 a0_3 a0_4 a1) K =
    F93_T k a0_0 a0_1 a0_2 a0_3 a0_4 a1 (fun r => K (F93_r r)) := by kernel_rfl
theorem F93_ev {β : Type} (k : Nat) (a0_0 : Int) (a0_1 : List (den (.int .u8))) (a0_2 a0_3 : Int) (a0_4 : List (den rng)) (a1 : Int) (K : A × List (List Leaf) → Option β) : evalF (F93_E k) Try.f93 (F93_a a0_0 a0_1 a0_2 a0_3 a0_4 a1) K = (F93 k a0_0 a0_1 a0_2 a0_3 a0_4 a1).bind fun r => K (F93_r r) := by
  rw [F93_st, F93]
  simp only [F93_T, bind_cond, Option.bind_assoc, Option.bind_some, Option.bind_none, Option.bind_fun_some]
theorem F93_tOk (k : Nat) : TabFn Try.prog (F93_t k) := .ent (F73_q k) F73_f (.ent (F72_q k) F72_f (.none))
theorem F93_con (k : Nat) (a0_0 : Int) (a0_1 : List (den (.int .u8))) (a0_2 a0_3 : Int) (a0_4 : List (den rng)) (a1 : Int) : Contract Try.prog 93 (F93_a a0_0 a0_1 a0_2 a0_3 a0_4 a1) ⟨F93 k a0_0 a0_1 a0_2 a0_3 a0_4 a1, F93_r⟩ := con_of (envOk (F93_tOk k) _ _ _ _) mixed Try.func93 rfl rfl (F93_ev k a0_0 a0_1 a0_2 a0_3 a0_4 a1 some)
def F93_sh : List AK := [.agg [.l (.int .i64), .l (.sl .ro (.int .u8)), .l (.int .i64), .l (.int .i64), .l (.sl .ro rng)], .one (.l (.int .i64))]
def F93_p (k : Nat) : List Arg → Option CR := cle F93_sh fun x => ⟨F93 k x.1.1 x.1.2.1 x.1.2.2.1 x.1.2.2.2.1 x.1.2.2.2.2.1 x.2.1, F93_r⟩
theorem F93_q (k : Nat) : ∀ xs cr, F93_p k xs = some cr → Contract Try.prog 93 xs cr := cle_ok fun x => F93_con k _ _ _ _ _ _
theorem F93_f : FnOk Try.prog 93 := .of (by kernel_rfl)
/-! 152: loop.example/netstack/laws.heldEarlyS -/
def F152_h : Nat → Hint
  | 0 => ⟨[(0, .plain), (1, .plain), (5, .plain)], []⟩
  | _ => ⟨[], []⟩
abbrev F152_E (k : Nat) : Env := env noTab F152_h .own [] k
abbrev F152_a (a0 : List (den erl)) (a1 : Int) : List Arg := [.one (.l (.s .ro erl a0)), .one (.l (.v (.int .i64 a1)))]
def F152_r (r : Int) : A × List (List Leaf) := (.one (.v (.int .i64 r)), [])
def F152_s0 (a0 : List (den erl)) (a1 : Int) (x1_0 x5_0 : Int) : St := ⟨(.one (.s .ro erl a0)) :: (.one (.v (.int .i64 x1_0))) :: dz 3 ((.one (.v (.int .i64 x5_0))) :: dz 26 []), []⟩
def F152_l0_T {β : Type} (k : Nat) (a0 : List (den erl)) (a1 : Int) (NX : Int → Int → Option β) (RET : Int → Option β) (x1_0 x5_0 : Int) : Option β := cond (decide (x5_0 < ((a0.length : Nat) : Int))) (cond (decide (0 ≤ x5_0)) (cond (decide (x5_0 < ((a0.length : Nat) : Int))) (cond (((atI a0 x5_0).1) != x1_0) (RET (-1)) (cond (decide (0 ≤ x5_0)) (cond (decide (x5_0 < ((a0.length : Nat) : Int))) (cond (((atI a0 x5_0).2) != (IntKind.u8.wrap (IntKind.i64.wrap (x1_0 + 1)))) (RET (-1)) (NX (IntKind.i64.wrap ((IntKind.i64.wrap (x1_0 + 1)) + 1)) (IntKind.i64.wrap (x5_0 + 1)))) none) none)) none) none) (RET x1_0)
def F152_l0 (k : Nat) (a0 : List (den erl)) (a1 : Int) : Nat → Int → Int → Option (Int)
  | 0, _, _ => none
  | n + 1, x1_0, x5_0 => F152_l0_T k a0 a1 (fun x1_0 x5_0 => F152_l0 k a0 a1 n x1_0 x5_0) some x1_0 x5_0
theorem F152_l0_rd {β : Type} (k n : Nat) (a0 : List (den erl)) (a1 : Int) (x1_0 x5_0 : Int) (K : A × List (List Leaf) → Option β) :
    loopG (F152_E k) Try.f152 [1, 0, 1, 0] 0 (kontAt (F152_E k) [1, 0, 1, 0] (bodyOf Try.f152) 0 (endC (F152_E k) Try.f152 (F152_a a0 a1) K)) (n + 1) (F152_s0 a0 a1 x1_0 x5_0) =
    F152_l0_T k a0 a1 (fun x1_0 x5_0 => loopG (F152_E k) Try.f152 [1, 0, 1, 0] 0 (kontAt (F152_E k) [1, 0, 1, 0] (bodyOf Try.f152) 0 (endC (F152_E k) Try.f152 (F152_a a0 a1) K)) n (F152_s0 a0 a1 x1_0 x5_0)) (fun r => K (F152_r r)) x1_0 x5_0 := by kernel_rfl
theorem F152_l0_lp {β : Type} (k : Nat) (a0 : List (den erl)) (a1 : Int) (K : A × List (List Leaf) → Option β) (n : Nat) : ∀ (x1_0 x5_0 : Int), loopG (F152_E k) Try.f152 [1, 0, 1, 0] 0 (kontAt (F152_E k) [1, 0, 1, 0] (bodyOf Try.f152) 0 (endC (F152_E k) Try.f152 (F152_a a0 a1) K)) n (F152_s0 a0 a1 x1_0 x5_0) =
    (F152_l0 k a0 a1 n x1_0 x5_0).bind fun r => K (F152_r r) := by
  induction n with
  | zero => intros; rfl
  | succ n ih =>
    intros
    rw [F152_l0_rd, F152_l0]
    simp only [F152_l0_T, bind_cond, Option.bind_assoc, Option.bind_some, Option.bind_none, Option.bind_fun_some, ih]
def F152_T {β : Type} (k : Nat) (a0 : List (den erl)) (a1 : Int) (LP0 : Int → Int → Option β) : Option β := LP0 a1 0
def F152 (k : Nat) (a0 : List (den erl)) (a1 : Int) : Option (Int) := F152_T k a0 a1 (fun x1_0 x5_0 => F152_l0 k a0 a1 k x1_0 x5_0)
theorem F152_st {β : Type} (k : Nat) (a0 : List (den erl)) (a1 : Int) (K : A × List (List Leaf) → Option β) : evalF (F152_E k) Try.f152 (F152_a a0 a1) K =
    F152_T k a0 a1 (fun x1_0 x5_0 => loopG (F152_E k) Try.f152 [1, 0, 1, 0] 0 (kontAt (F152_E k) [1, 0, 1, 0] (bodyOf Try.f152) 0 (endC (F152_E k) Try.f152 (F152_a a0 a1) K)) k (F152_s0 a0 a1 x1_0 x5_0)) := by kernel_rfl
theorem F152_ev {β : Type} (k : Nat) (a0 : List (den erl)) (a1 : Int) (K : A × List (List Leaf) → Option β) : evalF (F152_E k) Try.f152 (F152_a a0 a1) K = (F152 k a0 a1).bind fun r => K (F152_r r) := by
  rw [F152_st, F152]
  simp only [F152_T, bind_cond, Option.bind_assoc, Option.bind_some, Option.bind_none, Option.bind_fun_some, F152_l0_lp]
theorem F152_con (k : Nat) (a0 : List (den erl)) (a1 : Int) : Contract Try.prog 152 (F152_a a0 a1) ⟨F152 k a0 a1, F152_r⟩ := con_of (envOk .none _ _ _ _) mixed Try.func152 rfl rfl (F152_ev k a0 a1 some)
def F152_sh : List AK := [.one (.l (.sl .ro erl)), .one (.l (.int .i64))]
def F152_p (k : Nat) : List Arg → Option CR := cle F152_sh fun x => ⟨F152 k x.1 x.2.1, F152_r⟩
theorem F152_q (k : Nat) : ∀ xs cr, F152_p k xs = some cr → Contract Try.prog 152 xs cr := cle_ok fun x => F152_con k _ _
theorem F152_f : FnOk Try.prog 152 := .of (by kernel_rfl)
/-! 94: loop.example/netstack/laws.heldEar -/
def F94_t (k : Nat) : Tab := entT 73 (F73_p k) <| entT 152 (F152_p k) <| noTab
abbrev F94_E (k : Nat) : Env := env (F94_t k) noHint .own [] k
abbrev F94_a (a0_0 a0_1 : Int) (a0_2 : List (den (.int .u8))) (a0_3 : List (den erl)) (a1 : Int) : List Arg := [.agg [.l (.v (.int .i64 a0_0)), .l (.v (.int .i64 a0_1)), .l (.s .ro (.int .u8) a0_2), .l (.s .ro erl a0_3)], .one (.l (.v (.int .i64 a1)))]
def F94_r (r : Int) : A × List (List Leaf) := (.one (.v (.int .i64 r)), [])
def F94_T {β : Type} (k : Nat) (a0_0 a0_1 : Int) (a0_2 : List (den (.int .u8))) (a0_3 : List (den erl)) (a1 : Int) (RET : Int → Option β) : Option β := (F73 k a0_2 a1).bind fun b1 => cond (decide (b1 < 0)) (RET (-1)) ((F152 k a0_3 b1).bind fun b2 => cond (decide (b2 < 0)) (RET (-1)) (RET b2))
def F94 (k : Nat) (a0_0 a0_1 : Int) (a0_2 : List (den (.int .u8))) (a0_3 : List (den erl)) (a1 : Int) : Option (Int) := F94_T k a0_0 a0_1 a0_2 a0_3 a1 some
theorem F94_st {β : Type} (k : Nat) (a0_0 a0_1 : Int) (a0_2 : List (den (.int .u8))) (a0_3 : List (den erl)) (a1 : Int) (K : A × List (List Leaf) → Option β) : evalF (F94_E k) Try.f94 (F94_a a0_0 a0_1 a0_2 a0_3 a1) K =
    F94_T k a0_0 a0_1 a0_2 a0_3 a1 (fun r => K (F94_r r)) := by kernel_rfl
theorem F94_ev {β : Type} (k : Nat) (a0_0 a0_1 : Int) (a0_2 : List (den (.int .u8))) (a0_3 : List (den erl)) (a1 : Int) (K : A × List (List Leaf) → Option β) : evalF (F94_E k) Try.f94 (F94_a a0_0 a0_1 a0_2 a0_3 a1) K = (F94 k a0_0 a0_1 a0_2 a0_3 a1).bind fun r => K (F94_r r) := by
  rw [F94_st, F94]
  simp only [F94_T, bind_cond, Option.bind_assoc, Option.bind_some, Option.bind_none, Option.bind_fun_some]
theorem F94_tOk (k : Nat) : TabFn Try.prog (F94_t k) := .ent (F73_q k) F73_f (.ent (F152_q k) F152_f (.none))
theorem F94_con (k : Nat) (a0_0 a0_1 : Int) (a0_2 : List (den (.int .u8))) (a0_3 : List (den erl)) (a1 : Int) : Contract Try.prog 94 (F94_a a0_0 a0_1 a0_2 a0_3 a1) ⟨F94 k a0_0 a0_1 a0_2 a0_3 a1, F94_r⟩ := con_of (envOk (F94_tOk k) _ _ _ _) mixed Try.func94 rfl rfl (F94_ev k a0_0 a0_1 a0_2 a0_3 a1 some)
def F94_sh : List AK := [.agg [.l (.int .i64), .l (.int .i64), .l (.sl .ro (.int .u8)), .l (.sl .ro erl)], .one (.l (.int .i64))]
def F94_p (k : Nat) : List Arg → Option CR := cle F94_sh fun x => ⟨F94 k x.1.1 x.1.2.1 x.1.2.2.1 x.1.2.2.2.1 x.2.1, F94_r⟩
theorem F94_q (k : Nat) : ∀ xs cr, F94_p k xs = some cr → Contract Try.prog 94 xs cr := cle_ok fun x => F94_con k _ _ _ _ _
theorem F94_f : FnOk Try.prog 94 := .of (by kernel_rfl)
/-! 27: loop.example/netstack/laws.heldEnd -/
def F27_t (k : Nat) : Tab := entT 93 (F93_p k) <| entT 94 (F94_p k) <| noTab
abbrev F27_E (k : Nat) : Env := env (F27_t k) noHint .own [] k
abbrev F27_a (a0_0 a0_1 a0_2 a0_3 a0_4 a0_5 a0_6 : Int) (a0_7 : List (den (.int .u8))) (a0_8 a0_9 : Int) (a0_10 : List (den rng)) (a0_11 a0_12 : Int) (a0_13 : List (den (.int .u8))) (a0_14 : List (den erl)) (a0_15 a0_16 a0_17 : Bool) (a0_18 a0_19 a0_20 a0_21 a0_22 a0_23 a1 : Int) : List Arg := [.agg [.l (.v (.int .i64 a0_0)), .l (.v (.int .i64 a0_1)), .l (.v (.int .i64 a0_2)), .l (.v (.int .i64 a0_3)), .l (.v (.int .i64 a0_4)), .l (.v (.int .i64 a0_5)), .l (.v (.int .i64 a0_6)), .l (.s .ro (.int .u8) a0_7), .l (.v (.int .i64 a0_8)), .l (.v (.int .i64 a0_9)), .l (.s .ro rng a0_10), .l (.v (.int .i64 a0_11)), .l (.v (.int .i64 a0_12)), .l (.s .ro (.int .u8) a0_13), .l (.s .ro erl a0_14), .l (.v (.bool a0_15)), .l (.v (.bool a0_16)), .l (.v (.bool a0_17)), .l (.v (.int .i64 a0_18)), .l (.v (.int .i64 a0_19)), .l (.v (.int .i64 a0_20)), .l (.v (.int .i64 a0_21)), .l (.v (.int .i64 a0_22)), .l (.v (.int .i64 a0_23))], .one (.l (.v (.int .i64 a1)))]
def F27_r (r : Int) : A × List (List Leaf) := (.one (.v (.int .i64 r)), [])
def F27_T {β : Type} (k : Nat) (a0_0 a0_1 a0_2 a0_3 a0_4 a0_5 a0_6 : Int) (a0_7 : List (den (.int .u8))) (a0_8 a0_9 : Int) (a0_10 : List (den rng)) (a0_11 a0_12 : Int) (a0_13 : List (den (.int .u8))) (a0_14 : List (den erl)) (a0_15 a0_16 a0_17 : Bool) (a0_18 a0_19 a0_20 a0_21 a0_22 a0_23 a1 : Int) (RET : Int → Option β) : Option β := (F93 k a0_6 a0_7 a0_8 a0_9 a0_10 a1).bind fun b1 => cond (decide (b1 < 0)) (RET (-1)) ((F94 k a0_11 a0_12 a0_13 a0_14 b1).bind fun b2 => cond (decide (b2 < 0)) (RET (-1)) (RET b2))
def F27 (k : Nat) (a0_0 a0_1 a0_2 a0_3 a0_4 a0_5 a0_6 : Int) (a0_7 : List (den (.int .u8))) (a0_8 a0_9 : Int) (a0_10 : List (den rng)) (a0_11 a0_12 : Int) (a0_13 : List (den (.int .u8))) (a0_14 : List (den erl)) (a0_15 a0_16 a0_17 : Bool) (a0_18 a0_19 a0_20 a0_21 a0_22 a0_23 a1 : Int) : Option (Int) := F27_T k a0_0 a0_1 a0_2 a0_3 a0_4 a0_5 a0_6 a0_7 a0_8 a0_9 a0_10 a0_11 a0_12 a0_13 a0_14 a0_15 a0_16 a0_17 a0_18 a0_19 a0_20 a0_21 a0_22 a0_23 a1 some
theorem F27_st {β : Type} (k : Nat) (a0_0 a0_1 a0_2 a0_3 a0_4 a0_5 a0_6 : Int) (a0_7 : List (den (.int .u8))) (a0_8 a0_9 : Int) (a0_10 : List (den rng)) (a0_11 a0_12 : Int) (a0_13 : List (den (.int .u8))) (a0_14 : List (den erl)) (a0_15 a0_16 a0_17 : Bool) (a0_18 a0_19 a0_20 a0_21 a0_22 a0_23 a1 : Int) (K : A × List (List Leaf) → Option β) : evalF (F27_E k) Try.f27 (F27_a a0_0 a0_1 a0_2 a0_3 a0_4 a0_5 a0_6 a0_7 a0_8 a0_9 a0_10 a0_11 a0_12 a0_13 a0_14 a0_15 a0_16 a0_17 a0_18 a0_19 a0_20 a0_21 a0_22 a0_23 a1) K =
    F27_T k a0_0 a0_1 a0_2 a0_3 a0_4 a0_5 a0_6 a0_7 a0_8 a0_9 a0_10 a0_11 a0_12 a0_13 a0_14 a0_15 a0_16 a0_17 a0_18 a0_19 a0_20 a0_21 a0_22 a0_23 a1 (fun r => K (F27_r r)) := by kernel_rfl
theorem F27_ev {β : Type} (k : Nat) (a0_0 a0_1 a0_2 a0_3 a0_4 a0_5 a0_6 : Int) (a0_7 : List (den (.int .u8))) (a0_8 a0_9 : Int) (a0_10 : List (den rng)) (a0_11 a0_12 : Int) (a0_13 : List (den (.int .u8))) (a0_14 : List (den erl)) (a0_15 a0_16 a0_17 : Bool) (a0_18 a0_19 a0_20 a0_21 a0_22 a0_23 a1 : Int) (K : A × List (List Leaf) → Option β) : evalF (F27_E k) Try.f27 (F27_a a0_0 a0_1 a0_2 a0_3 a0_4 a0_5 a0_6 a0_7 a0_8 a0_9 a0_10 a0_11 a0_12 a0_13 a0_14 a0_15 a0_16 a0_17 a0_18 a0_19 a0_20 a0_21 a0_22 a0_23 a1) K = (F27 k a0_0 a0_1 a0_2 a0_3 a0_4 a0_5 a0_6 a0_7 a0_8 a0_9 a0_10 a0_11 a0_12 a0_13 a0_14 a0_15 a0_16 a0_17 a0_18 a0_19 a0_20 a0_21 a0_22 a0_23 a1).bind fun r => K (F27_r r) := by
  rw [F27_st, F27]
  simp only [F27_T, bind_cond, Option.bind_assoc, Option.bind_some, Option.bind_none, Option.bind_fun_some]
theorem F27_tOk (k : Nat) : TabFn Try.prog (F27_t k) := .ent (F93_q k) F93_f (.ent (F94_q k) F94_f (.none))
theorem F27_con (k : Nat) (a0_0 a0_1 a0_2 a0_3 a0_4 a0_5 a0_6 : Int) (a0_7 : List (den (.int .u8))) (a0_8 a0_9 : Int) (a0_10 : List (den rng)) (a0_11 a0_12 : Int) (a0_13 : List (den (.int .u8))) (a0_14 : List (den erl)) (a0_15 a0_16 a0_17 : Bool) (a0_18 a0_19 a0_20 a0_21 a0_22 a0_23 a1 : Int) : Contract Try.prog 27 (F27_a a0_0 a0_1 a0_2 a0_3 a0_4 a0_5 a0_6 a0_7 a0_8 a0_9 a0_10 a0_11 a0_12 a0_13 a0_14 a0_15 a0_16 a0_17 a0_18 a0_19 a0_20 a0_21 a0_22 a0_23 a1) ⟨F27 k a0_0 a0_1 a0_2 a0_3 a0_4 a0_5 a0_6 a0_7 a0_8 a0_9 a0_10 a0_11 a0_12 a0_13 a0_14 a0_15 a0_16 a0_17 a0_18 a0_19 a0_20 a0_21 a0_22 a0_23 a1, F27_r⟩ := con_of (envOk (F27_tOk k) _ _ _ _) mixed Try.func27 rfl rfl (F27_ev k a0_0 a0_1 a0_2 a0_3 a0_4 a0_5 a0_6 a0_7 a0_8 a0_9 a0_10 a0_11 a0_12 a0_13 a0_14 a0_15 a0_16 a0_17 a0_18 a0_19 a0_20 a0_21 a0_22 a0_23 a1 some)
def F27_sh : List AK := [.agg [.l (.int .i64), .l (.int .i64), .l (.int .i64), .l (.int .i64), .l (.int .i64), .l (.int .i64), .l (.int .i64), .l (.sl .ro (.int .u8)), .l (.int .i64), .l (.int .i64), .l (.sl .ro rng), .l (.int .i64), .l (.int .i64), .l (.sl .ro (.int .u8)), .l (.sl .ro erl), .l (.bool), .l (.bool), .l (.bool), .l (.int .i64), .l (.int .i64), .l (.int .i64), .l (.int .i64), .l (.int .i64), .l (.int .i64)], .one (.l (.int .i64))]
def F27_p (k : Nat) : List Arg → Option CR := cle F27_sh fun x => ⟨F27 k x.1.1 x.1.2.1 x.1.2.2.1 x.1.2.2.2.1 x.1.2.2.2.2.1 x.1.2.2.2.2.2.1 x.1.2.2.2.2.2.2.1 x.1.2.2.2.2.2.2.2.1 x.1.2.2.2.2.2.2.2.2.1 x.1.2.2.2.2.2.2.2.2.2.1 x.1.2.2.2.2.2.2.2.2.2.2.1 x.1.2.2.2.2.2.2.2.2.2.2.2.1 x.1.2.2.2.2.2.2.2.2.2.2.2.2.1 x.1.2.2.2.2.2.2.2.2.2.2.2.2.2.1 x.1.2.2.2.2.2.2.2.2.2.2.2.2.2.2.1 x.1.2.2.2.2.2.2.2.2.2.2.2.2.2.2.2.1 x.1.2.2.2.2.2.2.2.2.2.2.2.2.2.2.2.2.1 x.1.2.2.2.2.2.2.2.2.2.2.2.2.2.2.2.2.2.1 x.1.2.2.2.2.2.2.2.2.2.2.2.2.2.2.2.2.2.2.1 x.1.2.2.2.2.2.2.2.2.2.2.2.2.2.2.2.2.2.2.2.1 x.1.2.2.2.2.2.2.2.2.2.2.2.2.2.2.2.2.2.2.2.2.1 x.1.2.2.2.2.2.2.2.2.2.2.2.2.2.2.2.2.2.2.2.2.2.1 x.1.2.2.2.2.2.2.2.2.2.2.2.2.2.2.2.2.2.2.2.2.2.2.1 x.1.2.2.2.2.2.2.2.2.2.2.2.2.2.2.2.2.2.2.2.2.2.2.2.1 x.2.1, F27_r⟩
theorem F27_q (k : Nat) : ∀ xs cr, F27_p k xs = some cr → Contract Try.prog 27 xs cr := cle_ok fun x => F27_con k _ _ _ _ _ _ _ _ _ _ _ _ _ _ _ _ _ _ _ _ _ _ _ _ _
theorem F27_f : FnOk Try.prog 27 := .of (by kernel_rfl)
/-! 28: loop.example/netstack/laws.heldSegmentS -/
def F28_h : Nat → Hint
  | 0 => ⟨[(0, .plain), (1, .plain), (5, .plain)], []⟩
  | _ => ⟨[], []⟩
def F28_t (k : Nat) : Tab := entT 72 (F72_p k) <| entT 73 (F73_p k) <| noTab
abbrev F28_E (k : Nat) : Env := env (F28_t k) F28_h .own [] k
abbrev F28_a (a0 : List (den seg)) (a1 : Int) : List Arg := [.one (.l (.s .ro seg a0)), .one (.l (.v (.int .i64 a1)))]
def F28_r (r : Int) : A × List (List Leaf) := (.one (.v (.int .i64 r)), [])
def F28_s0 (a0 : List (den seg)) (a1 : Int) (x1_0 x5_0 : Int) : St := ⟨(.one (.s .ro seg a0)) :: (.one (.v (.int .i64 x1_0))) :: dz 3 ((.one (.v (.int .i64 x5_0))) :: dz 114 []), []⟩
def F28_l0_T {β : Type} (k : Nat) (a0 : List (den seg)) (a1 : Int) (NX : Int → Int → Option β) (RET : Int → Option β) (x1_0 x5_0 : Int) : Option β := cond (decide (x5_0 < ((a0.length : Nat) : Int))) (cond (decide (0 ≤ x5_0)) (cond (decide (x5_0 < ((a0.length : Nat) : Int))) (cond (((atI a0 x5_0).1) != x1_0) (RET (-1)) (cond (decide (0 ≤ x5_0)) (cond (decide (x5_0 < ((a0.length : Nat) : Int))) (cond ((((atI a0 x5_0).2).1) != (IntKind.i64.wrap (x1_0 + 1))) (RET (-1)) (cond (decide (0 ≤ x5_0)) (cond (decide (x5_0 < ((a0.length : Nat) : Int))) (cond (((((atI a0 x5_0).2).2).1) != (IntKind.i64.wrap ((IntKind.i64.wrap (x1_0 + 1)) + 1))) (RET (-1)) (cond (decide (0 ≤ x5_0)) (cond (decide (x5_0 < ((a0.length : Nat) : Int))) (cond ((((((atI a0 x5_0).2).2).2).1) != (IntKind.i64.wrap ((IntKind.i64.wrap ((IntKind.i64.wrap (x1_0 + 1)) + 1)) + 1))) (RET (-1)) (cond (decide (0 ≤ x5_0)) (cond (decide (x5_0 < ((a0.length : Nat) : Int))) (cond (((((((atI a0 x5_0).2).2).2).2).1) != (IntKind.i64.wrap ((IntKind.i64.wrap ((IntKind.i64.wrap ((IntKind.i64.wrap (x1_0 + 1)) + 1)) + 1)) + 1))) (RET (-1)) (cond (decide (0 ≤ x5_0)) (cond (decide (x5_0 < ((a0.length : Nat) : Int))) (cond (!((((((((atI a0 x5_0).2).2).2).2).2).1) == (((IntKind.i64.wrap ((IntKind.i64.wrap ((IntKind.i64.wrap ((IntKind.i64.wrap ((IntKind.i64.wrap (x1_0 + 1)) + 1)) + 1)) + 1)) + 1)).tmod 3) == 0))) (RET (-1)) (cond (decide (0 ≤ x5_0)) (cond (decide (x5_0 < ((a0.length : Nat) : Int))) (cond (!(((((((((atI a0 x5_0).2).2).2).2).2).2).1) == (((IntKind.i64.wrap ((IntKind.i64.wrap ((IntKind.i64.wrap ((IntKind.i64.wrap ((IntKind.i64.wrap ((IntKind.i64.wrap (x1_0 + 1)) + 1)) + 1)) + 1)) + 1)) + 1)).tmod 3) == 0))) (RET (-1)) (cond (decide (0 ≤ x5_0)) (cond (decide (x5_0 < ((a0.length : Nat) : Int))) (cond (!((((((((((atI a0 x5_0).2).2).2).2).2).2).2).1) == (((IntKind.i64.wrap ((IntKind.i64.wrap ((IntKind.i64.wrap ((IntKind.i64.wrap ((IntKind.i64.wrap ((IntKind.i64.wrap ((IntKind.i64.wrap (x1_0 + 1)) + 1)) + 1)) + 1)) + 1)) + 1)) + 1)).tmod 3) == 0))) (RET (-1)) (cond (decide (0 ≤ x5_0)) (cond (decide (x5_0 < ((a0.length : Nat) : Int))) (cond (!(((((((((((atI a0 x5_0).2).2).2).2).2).2).2).2).1) == (((IntKind.i64.wrap ((IntKind.i64.wrap ((IntKind.i64.wrap ((IntKind.i64.wrap ((IntKind.i64.wrap ((IntKind.i64.wrap ((IntKind.i64.wrap ((IntKind.i64.wrap (x1_0 + 1)) + 1)) + 1)) + 1)) + 1)) + 1)) + 1)) + 1)).tmod 3) == 0))) (RET (-1)) (cond (decide (0 ≤ x5_0)) (cond (decide (x5_0 < ((a0.length : Nat) : Int))) ((F72 k (((((((((((atI a0 x5_0).2).2).2).2).2).2).2).2).2).1) (IntKind.i64.wrap ((IntKind.i64.wrap ((IntKind.i64.wrap ((IntKind.i64.wrap ((IntKind.i64.wrap ((IntKind.i64.wrap ((IntKind.i64.wrap ((IntKind.i64.wrap ((IntKind.i64.wrap (x1_0 + 1)) + 1)) + 1)) + 1)) + 1)) + 1)) + 1)) + 1)) + 1))).bind fun b1 => cond (decide (b1 < 0)) (RET (-1)) (cond (decide (0 ≤ x5_0)) (cond (decide (x5_0 < ((a0.length : Nat) : Int))) ((F73 k (((((((((((atI a0 x5_0).2).2).2).2).2).2).2).2).2).2) b1).bind fun b2 => cond (decide (b2 < 0)) (RET (-1)) (NX b2 (IntKind.i64.wrap (x5_0 + 1)))) none) none)) none) none)) none) none)) none) none)) none) none)) none) none)) none) none)) none) none)) none) none)) none) none)) none) none) (RET x1_0)
def F28_l0 (k : Nat) (a0 : List (den seg)) (a1 : Int) : Nat → Int → Int → Option (Int)
  | 0, _, _ => none
  | n + 1, x1_0, x5_0 => F28_l0_T k a0 a1 (fun x1_0 x5_0 => F28_l0 k a0 a1 n x1_0 x5_0) some x1_0 x5_0
theorem F28_l0_rd {β : Type} (k n : Nat) (a0 : List (den seg)) (a1 : Int) (x1_0 x5_0 : Int) (K : A × List (List Leaf) → Option β) :
    loopG (F28_E k) Try.f28 [1, 0, 1, 0] 0 (kontAt (F28_E k) [1, 0, 1, 0] (bodyOf Try.f28) 0 (endC (F28_E k) Try.f28 (F28_a a0 a1) K)) (n + 1) (F28_s0 a0 a1 x1_0 x5_0) =
    F28_l0_T k a0 a1 (fun x1_0 x5_0 => loopG (F28_E k) Try.f28 [1, 0, 1, 0] 0 (kontAt (F28_E k) [1, 0, 1, 0] (bodyOf Try.f28) 0 (endC (F28_E k) Try.f28 (F28_a a0 a1) K)) n (F28_s0 a0 a1 x1_0 x5_0)) (fun r => K (F28_r r)) x1_0 x5_0 := by kernel_rfl
theorem F28_l0_lp {β : Type} (k : Nat) (a0 : List (den seg)) (a1 : Int) (K : A × List (List Leaf) → Option β) (n : Nat) : ∀ (x1_0 x5_0 : Int), loopG (F28_E k) Try.f28 [1, 0, 1, 0] 0 (kontAt (F28_E k) [1, 0, 1, 0] (bodyOf Try.f28) 0 (endC (F28_E k) Try.f28 (F28_a a0 a1) K)) n (F28_s0 a0 a1 x1_0 x5_0) =
    (F28_l0 k a0 a1 n x1_0 x5_0).bind fun r => K (F28_r r) := by
  induction n with
  | zero => intros; rfl
  | succ n ih =>
    intros
    rw [F28_l0_rd, F28_l0]
    simp only [F28_l0_T, bind_cond, Option.bind_assoc, Option.bind_some, Option.bind_none, Option.bind_fun_some, ih]
def F28_T {β : Type} (k : Nat) (a0 : List (den seg)) (a1 : Int) (LP0 : Int → Int → Option β) : Option β := LP0 a1 0
def F28 (k : Nat) (a0 : List (den seg)) (a1 : Int) : Option (Int) := F28_T k a0 a1 (fun x1_0 x5_0 => F28_l0 k a0 a1 k x1_0 x5_0)
theorem F28_st {β : Type} (k : Nat) (a0 : List (den seg)) (a1 : Int) (K : A × List (List Leaf) → Option β) : evalF (F28_E k) Try.f28 (F28_a a0 a1) K =
    F28_T k a0 a1 (fun x1_0 x5_0 => loopG (F28_E k) Try.f28 [1, 0, 1, 0] 0 (kontAt (F28_E k) [1, 0, 1, 0] (bodyOf Try.f28) 0 (endC (F28_E k) Try.f28 (F28_a a0 a1) K)) k (F28_s0 a0 a1 x1_0 x5_0)) := by kernel_rfl
theorem F28_ev {β : Type} (k : Nat) (a0 : List (den seg)) (a1 : Int) (K : A × List (List Leaf) → Option β) : evalF (F28_E k) Try.f28 (F28_a a0 a1) K = (F28 k a0 a1).bind fun r => K (F28_r r) := by
  rw [F28_st, F28]
  simp only [F28_T, bind_cond, Option.bind_assoc, Option.bind_some, Option.bind_none, Option.bind_fun_some, F28_l0_lp]
theorem F28_tOk (k : Nat) : TabFn Try.prog (F28_t k) := .ent (F72_q k) F72_f (.ent (F73_q k) F73_f (.none))
theorem F28_con (k : Nat) (a0 : List (den seg)) (a1 : Int) : Contract Try.prog 28 (F28_a a0 a1) ⟨F28 k a0 a1, F28_r⟩ := con_of (envOk (F28_tOk k) _ _ _ _) mixed Try.func28 rfl rfl (F28_ev k a0 a1 some)
def F28_sh : List AK := [.one (.l (.sl .ro seg)), .one (.l (.int .i64))]
def F28_p (k : Nat) : List Arg → Option CR := cle F28_sh fun x => ⟨F28 k x.1 x.2.1, F28_r⟩
theorem F28_q (k : Nat) : ∀ xs cr, F28_p k xs = some cr → Contract Try.prog 28 xs cr := cle_ok fun x => F28_con k _ _
theorem F28_f : FnOk Try.prog 28 := .of (by kernel_rfl)
end Go.Proofs.Ytkkgcidigiokfaa.Gn
end
