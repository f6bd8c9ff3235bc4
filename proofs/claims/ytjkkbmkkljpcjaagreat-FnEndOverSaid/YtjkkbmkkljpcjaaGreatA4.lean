/-
  What the proof of this row needs, part 4: the typed evaluator of the translated code, the functions that the law reaches as plain functions, and what they answer.
-/
import Derived.Test.YtjkkbmkkljpcjaaGreatChecked
import Derived.KernelRfl
import Derived.Test.YtjkkbmkkljpcjaaGreatA3
section
set_option linter.unusedVariables false
set_option linter.unusedSimpArgs false
namespace Go.Proofs.YtjkkbmkkljpcjaaGreat.Gn
open Go.Rf IntKind
noncomputable section
abbrev rng : Ty := (.pair (.int .i64) (.int .i64))
abbrev erl : Ty := (.pair (.int .i64) (.int .u8))
abbrev clk : Ty := (.pair (.int .i64) rng)
abbrev ear : Ty := (.pair (.int .i64) (.pair (.int .i64) (.pair (.sl (.int .u8)) (.sl erl))))
abbrev mth : Ty := (.pair (.int .i64) (.pair (.sl (.int .u8)) (.pair (.int .i64) (.pair (.int .i64) (.sl rng)))))
abbrev seg : Ty := (.pair (.int .i64) (.pair (.int .i64) (.pair (.int .i64) (.pair (.int .i64) (.pair (.int .i64) (.pair .bool (.pair .bool (.pair .bool (.pair .bool (.pair (.sl rng) (.sl (.int .u8))))))))))))
abbrev fin : Ty := (.pair (.int .i64) (.pair (.int .i64) (.pair (.int .i64) (.pair (.int .i64) (.pair (.int .i64) (.pair (.int .i64) (.pair mth (.pair ear (.pair .bool (.pair .bool (.pair .bool (.pair (.int .i64) (.pair (.int .i64) (.pair (.int .i64) clk))))))))))))))
abbrev L_u8 : Type := List (den (.int .u8))
abbrev L_rng : Type := List (den rng)
abbrev L_erl : Type := List (den erl)
abbrev L_seg : Type := List (den seg)
abbrev m_1 : MT := .pair (.sl .ro (.int .u8)) mI
abbrev m_2 : MT := .pair mI (.pair mI (.sl .ro rng))
abbrev m_3 : MT := .pair (.sl .ro (.int .u8)) m_2
abbrev m_4 : MT := .pair (.sl .ro (.int .u8)) (.sl .ro erl)
abbrev m_5 : MT := .pair mI (.pair mI (.pair mI mI))
abbrev m_6 : MT := .pair mB (.pair mI (.pair mI m_5))
abbrev m_7 : MT := .pair (.pair mI (.pair mI m_4)) (.pair mB (.pair mB m_6))
abbrev m_8 : MT := .pair mI (.pair (.pair mI m_3) m_7)
abbrev m_9 : MT := .pair mI (.pair mI (.pair mI m_8))
abbrev m_10 : MT := .pair mI (.pair mI (.sl .own rng))
abbrev m_11 : MT := .pair (.sl .own (.int .u8)) m_10
abbrev m_12 : MT := .pair (.sl .own (.int .u8)) (.sl .own erl)
abbrev m_13 : MT := .pair (.pair mI (.pair mI m_12)) (.pair mB (.pair mB m_6))
abbrev m_14 : MT := .pair (.pair mI m_11) m_13
abbrev m_15 : MT := .pair mI (.pair mI (.pair mI m_14))
abbrev m_16 : MT := .pair mI (.pair mI (.pair mI m_15))
abbrev m_17 : MT := .pair (.sl .own rng) (.sl .own (.int .u8))
abbrev m_18 : MT := .pair mB (.pair mB (.pair mB m_17))
abbrev m_19 : MT := .pair mI (.pair mI (.pair mB m_18))
abbrev m_20 : MT := .pair mI (.pair mI (.pair mI m_19))
abbrev m_21 : MT := .pair (.sl .ro rng) (.sl .ro (.int .u8))
abbrev m_22 : MT := .pair mB (.pair mB (.pair mB m_21))
abbrev m_23 : MT := .pair mI (.pair mI (.pair mB m_22))
abbrev m_24 : MT := .pair mI (.pair mI (.pair mI m_23))
abbrev m_25 : MT := .pair (.sl .ro rng) (.nil (.int .u8))
abbrev m_26 : MT := .pair mB (.pair mB (.pair mB m_25))
abbrev m_27 : MT := .pair mI (.pair mI (.pair mB m_26))
abbrev m_28 : MT := .pair mI (.pair mI (.pair mI m_27))
abbrev m_29 : MT := .pair (.sl .own rng) (.nil (.int .u8))
abbrev m_30 : MT := .pair mB (.pair mB (.pair mB m_29))
abbrev m_31 : MT := .pair mI (.pair mI (.pair mB m_30))
abbrev m_32 : MT := .pair mI (.pair mI (.pair mI m_31))
abbrev m_33 : MT := .pair (.sl .own rng) (.sl .ro (.int .u8))
abbrev m_34 : MT := .pair mB (.pair mB (.pair mB m_33))
abbrev m_35 : MT := .pair mI (.pair mI (.pair mB m_34))
abbrev m_36 : MT := .pair mI (.pair mI (.pair mI m_35))
abbrev u_0 {β : Type} (e : (L_u8 × Int)) (f : L_u8 → Int → β) : β := f e.1 e.2
abbrev u_mth {β : Type} (e : (den mth)) (f : Int → L_u8 → Int → Int → L_rng → β) : β := f e.1 e.2.1 e.2.2.1 e.2.2.2.1 e.2.2.2.2
abbrev u_ear {β : Type} (e : (den ear)) (f : Int → Int → L_u8 → L_erl → β) : β := f e.1 e.2.1 e.2.2.1 e.2.2.2
abbrev u_fin {β : Type} (e : (den fin)) (f : Int → Int → Int → Int → Int → Int → Int → L_u8 → Int → Int → L_rng → Int → Int → L_u8 → L_erl → Bool → Bool → Bool → Int → Int → Int → Int → Int → Int → β) : β := f e.1 e.2.1 e.2.2.1 e.2.2.2.1 e.2.2.2.2.1 e.2.2.2.2.2.1 e.2.2.2.2.2.2.1.1 e.2.2.2.2.2.2.1.2.1 e.2.2.2.2.2.2.1.2.2.1 e.2.2.2.2.2.2.1.2.2.2.1 e.2.2.2.2.2.2.1.2.2.2.2 e.2.2.2.2.2.2.2.1.1 e.2.2.2.2.2.2.2.1.2.1 e.2.2.2.2.2.2.2.1.2.2.1 e.2.2.2.2.2.2.2.1.2.2.2 e.2.2.2.2.2.2.2.2.1 e.2.2.2.2.2.2.2.2.2.1 e.2.2.2.2.2.2.2.2.2.2.1 e.2.2.2.2.2.2.2.2.2.2.2.1 e.2.2.2.2.2.2.2.2.2.2.2.2.1 e.2.2.2.2.2.2.2.2.2.2.2.2.2.1 e.2.2.2.2.2.2.2.2.2.2.2.2.2.2.1 e.2.2.2.2.2.2.2.2.2.2.2.2.2.2.2.1 e.2.2.2.2.2.2.2.2.2.2.2.2.2.2.2.2
abbrev u_clk {β : Type} (e : (den clk)) (f : Int → Int → Int → β) : β := f e.1 e.2.1 e.2.2
abbrev u_seg {β : Type} (e : (den seg)) (f : Int → Int → Int → Int → Int → Bool → Bool → Bool → Bool → L_rng → L_u8 → β) : β := f e.1 e.2.1 e.2.2.1 e.2.2.2.1 e.2.2.2.2.1 e.2.2.2.2.2.1 e.2.2.2.2.2.2.1 e.2.2.2.2.2.2.2.1 e.2.2.2.2.2.2.2.2.1 e.2.2.2.2.2.2.2.2.2.1 e.2.2.2.2.2.2.2.2.2.2
abbrev u_erl {β : Type} (e : (den erl)) (f : Int → Int → β) : β := f e.1 e.2
abbrev u_7 {β : Type} (e : ((den mth) × ((den ear) × (Bool × (Bool × (Bool × (Int × (Int × (Int × (den clk)))))))))) (f : Int → L_u8 → Int → Int → L_rng → Int → Int → L_u8 → L_erl → Bool → Bool → Bool → Int → Int → Int → Int → Int → Int → β) : β := f e.1.1 e.1.2.1 e.1.2.2.1 e.1.2.2.2.1 e.1.2.2.2.2 e.2.1.1 e.2.1.2.1 e.2.1.2.2.1 e.2.1.2.2.2 e.2.2.1 e.2.2.2.1 e.2.2.2.2.1 e.2.2.2.2.2.1 e.2.2.2.2.2.2.1 e.2.2.2.2.2.2.2.1 e.2.2.2.2.2.2.2.2.1 e.2.2.2.2.2.2.2.2.2.1 e.2.2.2.2.2.2.2.2.2.2
def tyT : List (Nat × TyI) := [(3, ⟨(.int .i64), false, 0⟩), (4, ⟨.bool, false, 0⟩), (5, ⟨(.int .u8), false, 0⟩), (22, ⟨(.sl (.int .u8)), false, 1⟩), (37, ⟨(.sl rng), false, 16⟩), (39, ⟨mth, true, 0⟩), (40, ⟨(.sl erl), false, 16⟩), (42, ⟨ear, true, 0⟩), (43, ⟨clk, true, 0⟩), (45, ⟨fin, true, 0⟩), (46, ⟨(.sl seg), false, 96⟩), (51, ⟨seg, true, 0⟩), (116, ⟨rng, true, 0⟩), (125, ⟨erl, true, 0⟩), (150, ⟨(.pair (.sl (.int .u8)) (.int .i64)), true, 0⟩), (152, ⟨(.sl (.int .i64)), false, 8⟩)]
def fldT : FldT := [(39, [(0, 1, false), (1, 1, false), (2, 1, false), (3, 1, false), (4, 1, false)]), (42, [(0, 1, false), (1, 1, false), (2, 1, false), (3, 1, false)]), (43, [(0, 1, false), (1, 1, false), (2, 1, false)]), (45, [(0, 1, false), (1, 1, false), (2, 1, false), (3, 1, false), (4, 1, false), (5, 1, false), (6, 5, true), (11, 4, true), (15, 1, false), (16, 1, false), (17, 1, false), (18, 1, false), (19, 1, false), (20, 1, false), (21, 3, true)]), (51, [(0, 1, false), (1, 1, false), (2, 1, false), (3, 1, false), (4, 1, false), (5, 1, false), (6, 1, false), (7, 1, false), (8, 1, false), (9, 1, false), (10, 1, false)]), (116, [(0, 1, false), (1, 1, false)]), (125, [(0, 1, false), (1, 1, false)]), (150, [(0, 1, false), (1, 1, false)])]
def eqT : List Nat := [116]
def env (tab : Tab) (hint : Nat → Hint) (rm : Rf.Mode) (pins : List (Bool × Nat)) (k : Nat) : Env :=
 { tab := tab, lend := (fun f => cond (Nat.beq f 173) [true] (cond (Nat.beq f 170) [true] (cond (Nat.beq f 171) [true] (cond (Nat.beq f 99) [true] ([]))))), lent := (fun _ => []), pins := pins, ty := asc tyT, fld := fldOf fldT, pw := fun _ => none, cw := fun _ => [], hint := hint, eqt := hasK eqT, rm := rm, fuel := k }
theorem tyOk : AllT (TyOk Tryz.prog) tyT :=
 ⟨.ofInt (b := 8) (by kernel_rfl) (by kernel_rfl), .ofBool (b := 1) (by kernel_rfl) (by kernel_rfl), .ofInt (b := 1) (by kernel_rfl) (by kernel_rfl), .ofSl (te := 5) (b := 24) (by kernel_rfl) (by kernel_rfl) (by kernel_rfl) (fun _ h => by cases h; kernel_rfl), .ofSl (te := 116) (b := 24) (by kernel_rfl) (by kernel_rfl) (by kernel_rfl) nofun, .ofAgg (b := 72) (by kernel_rfl) (by kernel_rfl), .ofSl (te := 125) (b := 24) (by kernel_rfl) (by kernel_rfl) (by kernel_rfl) nofun, .ofAgg (b := 64) (by kernel_rfl) (by kernel_rfl), .ofAgg (b := 24) (by kernel_rfl) (by kernel_rfl), .ofAgg (b := 240) (by kernel_rfl) (by kernel_rfl), .ofSl (te := 51) (b := 24) (by kernel_rfl) (by kernel_rfl) (by kernel_rfl) nofun, .ofAgg (b := 96) (by kernel_rfl) (by kernel_rfl), .ofAgg (b := 16) (by kernel_rfl) (by kernel_rfl), .ofAgg (b := 16) (by kernel_rfl) (by kernel_rfl), .ofAgg (b := 32) (by kernel_rfl) (by kernel_rfl), .ofSl (te := 3) (b := 24) (by kernel_rfl) (by kernel_rfl) (by kernel_rfl) (fun _ h => by cases h; kernel_rfl), trivial⟩
theorem fldOk : AllF Tryz.prog fldT :=
 ⟨⟨⟨by kernel_rfl, by kernel_rfl⟩, ⟨by kernel_rfl, by kernel_rfl⟩, ⟨by kernel_rfl, by kernel_rfl⟩, ⟨by kernel_rfl, by kernel_rfl⟩, ⟨by kernel_rfl, by kernel_rfl⟩, trivial⟩, ⟨⟨by kernel_rfl, by kernel_rfl⟩, ⟨by kernel_rfl, by kernel_rfl⟩, ⟨by kernel_rfl, by kernel_rfl⟩, ⟨by kernel_rfl, by kernel_rfl⟩, trivial⟩, ⟨⟨by kernel_rfl, by kernel_rfl⟩, ⟨by kernel_rfl, by kernel_rfl⟩, ⟨by kernel_rfl, by kernel_rfl⟩, trivial⟩, ⟨⟨by kernel_rfl, by kernel_rfl⟩, ⟨by kernel_rfl, by kernel_rfl⟩, ⟨by kernel_rfl, by kernel_rfl⟩, ⟨by kernel_rfl, by kernel_rfl⟩, ⟨by kernel_rfl, by kernel_rfl⟩, ⟨by kernel_rfl, by kernel_rfl⟩, ⟨by kernel_rfl, by kernel_rfl⟩, ⟨by kernel_rfl, by kernel_rfl⟩, ⟨by kernel_rfl, by kernel_rfl⟩, ⟨by kernel_rfl, by kernel_rfl⟩, ⟨by kernel_rfl, by kernel_rfl⟩, ⟨by kernel_rfl, by kernel_rfl⟩, ⟨by kernel_rfl, by kernel_rfl⟩, ⟨by kernel_rfl, by kernel_rfl⟩, ⟨by kernel_rfl, by kernel_rfl⟩, trivial⟩, ⟨⟨by kernel_rfl, by kernel_rfl⟩, ⟨by kernel_rfl, by kernel_rfl⟩, ⟨by kernel_rfl, by kernel_rfl⟩, ⟨by kernel_rfl, by kernel_rfl⟩, ⟨by kernel_rfl, by kernel_rfl⟩, ⟨by kernel_rfl, by kernel_rfl⟩, ⟨by kernel_rfl, by kernel_rfl⟩, ⟨by kernel_rfl, by kernel_rfl⟩, ⟨by kernel_rfl, by kernel_rfl⟩, ⟨by kernel_rfl, by kernel_rfl⟩, ⟨by kernel_rfl, by kernel_rfl⟩, trivial⟩, ⟨⟨by kernel_rfl, by kernel_rfl⟩, ⟨by kernel_rfl, by kernel_rfl⟩, trivial⟩, ⟨⟨by kernel_rfl, by kernel_rfl⟩, ⟨by kernel_rfl, by kernel_rfl⟩, trivial⟩, ⟨⟨by kernel_rfl, by kernel_rfl⟩, ⟨by kernel_rfl, by kernel_rfl⟩, trivial⟩, trivial⟩
theorem mixed : Tryz.prog.follows .mixedOrders = true := by kernel_rfl
theorem bldOk : AllT (fun t i => i.agg = true → BldOk Tryz.prog t (fldOf fldT t)) tyT :=
 ⟨nofun, nofun, nofun, nofun, nofun, fun _ => bld_of (row := [(0, 1, false), (1, 1, false), (2, 1, false), (3, 1, false), (4, 1, false)]) rfl (by kernel_rfl) (by kernel_rfl), nofun, fun _ => bld_of (row := [(0, 1, false), (1, 1, false), (2, 1, false), (3, 1, false)]) rfl (by kernel_rfl) (by kernel_rfl), fun _ => bld_of (row := [(0, 1, false), (1, 1, false), (2, 1, false)]) rfl (by kernel_rfl) (by kernel_rfl), fun _ => bld_of (row := [(0, 1, false), (1, 1, false), (2, 1, false), (3, 1, false), (4, 1, false), (5, 1, false), (6, 5, true), (11, 4, true), (15, 1, false), (16, 1, false), (17, 1, false), (18, 1, false), (19, 1, false), (20, 1, false), (21, 3, true)]) rfl (by kernel_rfl) (by kernel_rfl), nofun, fun _ => bld_of (row := [(0, 1, false), (1, 1, false), (2, 1, false), (3, 1, false), (4, 1, false), (5, 1, false), (6, 1, false), (7, 1, false), (8, 1, false), (9, 1, false), (10, 1, false)]) rfl (by kernel_rfl) (by kernel_rfl), fun _ => bld_of (row := [(0, 1, false), (1, 1, false)]) rfl (by kernel_rfl) (by kernel_rfl), fun _ => bld_of (row := [(0, 1, false), (1, 1, false)]) rfl (by kernel_rfl) (by kernel_rfl), fun _ => bld_of (row := [(0, 1, false), (1, 1, false)]) rfl (by kernel_rfl) (by kernel_rfl), nofun, trivial⟩
theorem eqOkT : AllT (fun t i => hasK eqT t = true → EqOk Tryz.prog t i.ty) tyT :=
 ⟨fun h => absurd h (by decide), fun h => absurd h (by decide), fun h => absurd h (by decide), fun h => absurd h (by decide), fun h => absurd h (by decide), fun h => absurd h (by decide), fun h => absurd h (by decide), fun h => absurd h (by decide), fun h => absurd h (by decide), fun h => absurd h (by decide), fun h => absurd h (by decide), fun h => absurd h (by decide), fun _ => EqOk.of (n := 8) (by decide) (by kernel_rfl) (by kernel_rfl) (by kernel_rfl) (by kernel_rfl) (by kernel_rfl), fun h => absurd h (by decide), fun h => absurd h (by decide), fun h => absurd h (by decide), trivial⟩
theorem tysOk (tab : Tab) (hint : Nat → Hint) (rm : Rf.Mode) (pins : List (Bool × Nat)) (k : Nat) : TysOk Tryz.prog (env tab hint rm pins k) :=
 ⟨fun t i h => tyOk.get h, fun s f z h => fldOk.get h, fun t i h => bldOk.get h, fun t i h h2 => eqOkT.get h2 h, fun _ h => by cases h⟩
theorem envOk {tab : Tab} (h : TabFn Tryz.prog tab) (hint : Nat → Hint) (rm : Rf.Mode) (pins : List (Bool × Nat)) (k : Nat) : EnvOk Tryz.prog (env tab hint rm pins k) := EnvOk.of (tysOk tab hint rm pins k) h
theorem envOkF (frz : List Nat) {tab : Tab} (h : TabFn Tryz.prog tab) (hint : Nat → Hint) (rm : Rf.Mode) (pins : List (Bool × Nat)) (k : Nat) : EnvOk Tryz.prog { env tab hint rm pins k with frz := frz } :=
 have e := envOk h hint rm pins k; ⟨e.ty, e.fld, e.bld, e.eq, e.tab, e.fn, e.itr⟩
theorem envOkR (rh : Nat → Option Hint) {tab : Tab} (h : TabFn Tryz.prog tab) (hint : Nat → Hint) (rm : Rf.Mode) (pins : List (Bool × Nat)) (k : Nat) : EnvOk Tryz.prog { env tab hint rm pins k with rh := rh } :=
 have e := envOk h hint rm pins k; ⟨e.ty, e.fld, e.bld, e.eq, e.tab, e.fn, e.itr⟩
def noTab : Tab := fun _ _ => none
def noHint : Nat → Hint := fun _ => ⟨[], []⟩
end
end Go.Proofs.YtjkkbmkkljpcjaaGreat.Gn
end

section
set_option linter.unusedVariables false
set_option linter.unusedSimpArgs false
namespace Go.Proofs.YtjkkbmkkljpcjaaGreat.Gn
open Go.Rf IntKind
noncomputable section
abbrev F80_E (k : Nat) : Env := env noTab noHint .own [] k
abbrev F80_A : List PA := [.one (.sl .ro (.int .u8))]
abbrev F80_O : RO := ⟨[.ptr 2], [m_1]⟩
def F80_T {β : Type} (RET : (L_u8 × Int) → Option β) (k : Nat) (v : L_u8) : Option β := cond (decide ((v.length : Int) > 2000)) (cond (decide (0 ≤ 2000) && decide (2000 ≤ (v.length : Int))) (RET (v.take 2000, 0)) none) (RET (v, 0))
def F80 := F80_T (β := (L_u8 × Int)) some
theorem F80_ev {β : Type} (k : Nat) (v : L_u8) (K : KT β) : evalF (F80_E k) Tryz.f80 (PsT.put F80_A (v, ())) K = (F80 k v).bind fun r => K (F80_O.put r) :=
 Eq.trans (b := F80_T (fun r => K (F80_O.put r)) k v) (by kernel_rfl) (by simp only [F80, F80_T, z1, z2, z3, z4, z5])
def F80_d (k : Nat) : FD := ⟨80, F80_A, F80_O, F80 k⟩
theorem F80_q (k : Nat) : (F80_d k).Ok Tryz.prog := ⟨fun x => con_of (envOk .none _ _ _ _) mixed Tryz.func80 rfl rfl (F80_ev k _ some), .of (by kernel_rfl)⟩
abbrev F82_E (k : Nat) : Env := env noTab noHint .own [(false, 0), (false, 1)] k
abbrev F82_A : List PA := [.p m_1, .one mI]
abbrev F82_O : RO := ⟨[.v], [mI, m_1]⟩
def F82_T {β : Type} (RET : (Int × (L_u8 × Int)) → Option β) (k : Nat) (v : (L_u8 × Int)) (w : Int) : Option β := u_0 v fun v0 v1 => cond (decide (w < 1)) (RET (0, (v0, i64.wrap (v1 + 1)))) (cond ((v0.length : Int) == 0) (RET (0, (v0, i64.wrap (v1 + 1)))) (cond (decide ((i64.wrap ((i64.wrap (v1 + 1)) - 1)) < (v0.length : Int))) (ixc (i64.wrap ((i64.wrap (v1 + 1)) - 1)) v0 (cond (decide (w = 0)) none (RET (((i64.wrap (atI v0 (i64.wrap ((i64.wrap (v1 + 1)) - 1)))).tmod w), (v0, i64.wrap (v1 + 1)))))) (cond (decide ((v0.length : Int) = 0)) none (ixc ((i64.wrap ((i64.wrap (v1 + 1)) - 1)).tmod (v0.length : Int)) v0 (cond (decide ((v0.length : Int) = 0)) none (ixc ((i64.wrap ((i64.wrap ((i64.wrap ((i64.wrap (v1 + 1)) - 1)) * 7)) + 3)).tmod (v0.length : Int)) v0 (cond (decide ((v0.length : Int) = 0)) none (cond (decide (w = 0)) none (RET (((bitsOf .xor .i64 (i64.wrap ((i64.wrap ((i64.wrap ((i64.wrap ((i64.wrap (atI v0 ((i64.wrap ((i64.wrap (v1 + 1)) - 1)).tmod (v0.length : Int)))) * 131)) + (i64.wrap ((i64.wrap (atI v0 ((i64.wrap ((i64.wrap ((i64.wrap ((i64.wrap (v1 + 1)) - 1)) * 7)) + 3)).tmod (v0.length : Int)))) * 1117)))) + (i64.wrap ((i64.wrap ((i64.wrap (v1 + 1)) - 1)) * 29)))) + (i64.wrap ((i64.wrap ((i64.wrap ((i64.wrap (v1 + 1)) - 1)).tdiv (v0.length : Int))) * 53)))) (i64.wrap ((i64.wrap ((i64.wrap ((i64.wrap ((i64.wrap ((i64.wrap (atI v0 ((i64.wrap ((i64.wrap (v1 + 1)) - 1)).tmod (v0.length : Int)))) * 131)) + (i64.wrap ((i64.wrap (atI v0 ((i64.wrap ((i64.wrap ((i64.wrap ((i64.wrap (v1 + 1)) - 1)) * 7)) + 3)).tmod (v0.length : Int)))) * 1117)))) + (i64.wrap ((i64.wrap ((i64.wrap (v1 + 1)) - 1)) * 29)))) + (i64.wrap ((i64.wrap ((i64.wrap ((i64.wrap (v1 + 1)) - 1)).tdiv (v0.length : Int))) * 53)))).tdiv 64))).tmod w), (v0, i64.wrap (v1 + 1))))))))))))
def F82 := F82_T (β := Int × (L_u8 × Int)) some
theorem F82_ev {β : Type} (k : Nat) (v : (L_u8 × Int)) (w : Int) (K : KT β) : evalF (F82_E k) Tryz.f82 (PsT.put F82_A (v, w, ())) K = (F82 k v w).bind fun r => K (F82_O.put r) :=
 Eq.trans (b := F82_T (fun r => K (F82_O.put r)) k v w) (by kernel_rfl) (by simp only [F82, F82_T, z1, z2, z3, z4, z5, u_0])
def F82_d (k : Nat) : FD := ⟨82, F82_A, F82_O, F82 k⟩
theorem F82_q (k : Nat) : (F82_d k).Ok Tryz.prog := ⟨fun x => con_of (envOk .none _ _ _ _) mixed Tryz.func82 rfl rfl (F82_ev k _ _ some), .of (by kernel_rfl)⟩
abbrev F165_E (k : Nat) : Env := env noTab noHint .own [] k
abbrev F165_A : List PA := [.one mI]
abbrev F165_O : RO := ⟨[.a], [.pair mI (.pair mI mI)]⟩
def F165 (k : Nat) (v : Int) : Option ((den clk)) := some (0, 0, 24)
theorem F165_ev {β : Type} (k : Nat) (v : Int) (K : KT β) : evalF (F165_E k) Tryz.f165 (PsT.put F165_A (v, ())) K = (F165 k v).bind fun r => K (F165_O.put r) :=
 Eq.trans (b := K (F165_O.put (0, 0, 24))) (by kernel_rfl) (by simp only [F165, z1, z2, z3, z4, z5])
def F165_d (k : Nat) : FD := ⟨165, F165_A, F165_O, F165 k⟩
theorem F165_q (k : Nat) : (F165_d k).Ok Tryz.prog := ⟨fun x => con_of (envOk .none _ _ _ _) mixed Tryz.func165 rfl rfl (F165_ev k _ some), .of (by kernel_rfl)⟩
abbrev F44_E (k : Nat) : Env := env noTab noHint .own [] k
abbrev F44_A : List PA := [.one mI, .one mI, .one mI]
abbrev F44_O : RO := ⟨[.v], [mB]⟩
def F44 (k : Nat) (v w p : Int) : Option (Bool) := cond (decide (v ≥ w)) (some (decide (v ≤ p))) (some false)
theorem F44_ev {β : Type} (k : Nat) (v w p : Int) (K : KT β) : evalF (F44_E k) Tryz.f44 (PsT.put F44_A (v, w, p, ())) K = (F44 k v w p).bind fun r => K (F44_O.put r) :=
 Eq.trans (b := cond (decide (v ≥ w)) (K (F44_O.put (decide (v ≤ p)))) (K (F44_O.put false))) (by kernel_rfl) (by simp only [F44, z1, z2, z3, z4, z5])
def F44_d (k : Nat) : FD := ⟨44, F44_A, F44_O, F44 k⟩
theorem F44_q (k : Nat) : (F44_d k).Ok Tryz.prog := ⟨fun x => con_of (envOk .none _ _ _ _) mixed Tryz.func44 rfl rfl (F44_ev k _ _ _ some), .of (by kernel_rfl)⟩
def F107_h : Nat → Hint
 | 0 => ⟨pl 1 1 (pl 3 1 []), pl 1000 5 []⟩
 | _ => ⟨[], []⟩
abbrev F107_E (k : Nat) : Env := env (tabs [F44_d k]) F107_h .own [] k
abbrev F107_A : List PA := [.agg (.pair mI m_3)]
abbrev F107_O : RO := ⟨[.v], [mB]⟩
noncomputable def F107_z {β : Type} (k : Nat) (v : (den mth)) (K : KT β) : Ex → St → Option β := endC (F107_E k) Tryz.f107 (PsT.put F107_A (v, ())) K
def F107_s0 (v : (den mth)) (x3_0 : Int) : St := ⟨(.one .d) :: (.one (.ptr (.cell 1000) 5 0)) :: (.one .d) :: (.one (vI x3_0)) :: dz 82 [], rowE 1000 (lsM (.pair mI m_3) v) []⟩
noncomputable def F107_l0_g {β : Type} (k : Nat) (v : (den mth)) (K : KT β) (n : Nat) (x3_0 : Int) : Option β := loopG (F107_E k) Tryz.f107 [1, 1, 0, 1, 0] 0 (kontAt (F107_E k) [1, 1, 0, 1, 0] (bodyOf Tryz.f107) 0 (F107_z k v K)) n (F107_s0 v x3_0)
def F107_l0_T {β : Type} (NX : Int → Option β) (RET : Bool → Option β) (k : Nat) (v : (den mth)) (x3_0 : Int) : Option β := u_mth v fun v0 _ v2 _ v4 => cond (decide (x3_0 < (v4.length : Int))) (ixc x3_0 v4 (cond (decide ((atI v4 x3_0).1 ≤ v0)) (RET false) (cond (decide ((atI v4 x3_0).2 ≤ (atI v4 x3_0).1)) (RET false) (cond (decide ((atI v4 x3_0).2 > (i64.wrap (v0 + v2)))) (RET false) (cond (decide (x3_0 > 0)) (ixc (i64.wrap (x3_0 - 1)) v4 (cond (decide ((atI v4 (i64.wrap (x3_0 - 1))).2 ≥ (atI v4 x3_0).1)) (RET false) (NX (i64.wrap (x3_0 + 1))))) (NX (i64.wrap (x3_0 + 1)))))))) (RET true)
def F107_l0 (k : Nat) (v : (den mth)) : Nat → Int → Option (Bool)
 | 0, _ => none
 | n + 1, x3_0 => F107_l0_T (F107_l0 k v n) some k v x3_0
theorem F107_l0_lp {β : Type} (k : Nat) (v : (den mth)) (K : KT β) (n : Nat) : ∀ (x3_0 : Int), F107_l0_g k v K n x3_0 =
  (F107_l0 k v n x3_0).bind fun r => K (F107_O.put r) := by
 induction n with
 | zero => intros; rfl
 | succ n ih =>
  intro x3_0
  refine Eq.trans (b := F107_l0_T (F107_l0_g k v K n) (fun r => K (F107_O.put r)) k v x3_0) (by kernel_rfl) ?_
  rw [F107_l0]
  simp only [F107_l0_T, z1, z2, z3, z4, z5, u_mth, ih]
def F107_T {β : Type} (LP0 : Int → Option β) (RET : Bool → Option β) (k : Nat) (v : (den mth)) : Option β := u_mth v fun v0 v1 v2 v3 v4 => (F44 k v0 0 1000000).bind fun b1 => cond (!b1) (RET false) (cond (decide ((v1.length : Int) > 32)) (RET false) ((F44 k v2 0 (v1.length : Int)).bind fun b2 => cond (!b2) (RET false) ((F44 k v3 0 255).bind fun b3 => cond (!b3) (RET false) (cond (decide ((v4.length : Int) > 2)) (RET false) (LP0 0)))))
def F107 (k : Nat) (v : (den mth)) : Option (Bool) := F107_T (F107_l0 k v k) some k v
theorem F107_ev {β : Type} (k : Nat) (v : (den mth)) (K : KT β) : evalF (F107_E k) Tryz.f107 (PsT.put F107_A (v, ())) K = (F107 k v).bind fun r => K (F107_O.put r) :=
 Eq.trans (b := F107_T (F107_l0_g k v K k) (fun r => K (F107_O.put r)) k v) (by kernel_rfl) (by simp only [F107, F107_T, z1, z2, z3, z4, z5, u_mth, F107_l0_lp])
def F107_d (k : Nat) : FD := ⟨107, F107_A, F107_O, F107 k⟩
theorem F107_q (k : Nat) : (F107_d k).Ok Tryz.prog := ⟨fun x => con_of (envOk (tabsOk (.c (F44_q k) .n)) _ _ _ _) mixed Tryz.func107 rfl rfl (F107_ev k _ some), .of (by kernel_rfl)⟩
def F108_h : Nat → Hint
 | 0 => ⟨pl 1 1 (pl 3 1 []), pl 1000 4 []⟩
 | _ => ⟨[], []⟩
abbrev F108_E (k : Nat) : Env := env (tabs [F44_d k]) F108_h .own [] k
abbrev F108_A : List PA := [.agg (.pair mI (.pair mI m_4))]
abbrev F108_O : RO := ⟨[.v], [mB]⟩
noncomputable def F108_z {β : Type} (k : Nat) (v : (den ear)) (K : KT β) : Ex → St → Option β := endC (F108_E k) Tryz.f108 (PsT.put F108_A (v, ())) K
def F108_s0 (v : (den ear)) (x3_0 : Int) : St := ⟨(.one .d) :: (.one (.ptr (.cell 1000) 4 0)) :: (.one .d) :: (.one (vI x3_0)) :: dz 72 [], rowE 1000 (lsM (.pair mI (.pair mI m_4)) v) []⟩
noncomputable def F108_l0_g {β : Type} (k : Nat) (v : (den ear)) (K : KT β) (n : Nat) (x3_0 : Int) : Option β := loopG (F108_E k) Tryz.f108 [1, 1, 0, 1, 0] 0 (kontAt (F108_E k) [1, 1, 0, 1, 0] (bodyOf Tryz.f108) 0 (F108_z k v K)) n (F108_s0 v x3_0)
def F108_l0_T {β : Type} (NX : Int → Option β) (RET : Bool → Option β) (k : Nat) (v : (den ear)) (x3_0 : Int) : Option β := u_ear v fun v0 v1 v2 v3 => cond (decide (x3_0 < (v3.length : Int))) (ixc x3_0 v3 (cond (decide ((atI v3 x3_0).1 ≤ v0)) (RET false) (ixc x3_0 v3 (cond (decide ((atI v3 x3_0).1 ≥ (i64.wrap ((i64.wrap (v0 + v1)) - (v2.length : Int))))) (RET false) (cond (decide (x3_0 > 0)) (ixc (i64.wrap (x3_0 - 1)) v3 (ixc x3_0 v3 (cond (decide ((atI v3 (i64.wrap (x3_0 - 1))).1 ≥ (atI v3 x3_0).1)) (RET false) (NX (i64.wrap (x3_0 + 1)))))) (NX (i64.wrap (x3_0 + 1)))))))) (RET true)
def F108_l0 (k : Nat) (v : (den ear)) : Nat → Int → Option (Bool)
 | 0, _ => none
 | n + 1, x3_0 => F108_l0_T (F108_l0 k v n) some k v x3_0
theorem F108_l0_lp {β : Type} (k : Nat) (v : (den ear)) (K : KT β) (n : Nat) : ∀ (x3_0 : Int), F108_l0_g k v K n x3_0 =
  (F108_l0 k v n x3_0).bind fun r => K (F108_O.put r) := by
 induction n with
 | zero => intros; rfl
 | succ n ih =>
  intro x3_0
  refine Eq.trans (b := F108_l0_T (F108_l0_g k v K n) (fun r => K (F108_O.put r)) k v x3_0) (by kernel_rfl) ?_
  rw [F108_l0]
  simp only [F108_l0_T, z1, z2, z3, z4, z5, u_ear, ih]
def F108_T {β : Type} (LP0 : Int → Option β) (RET : Bool → Option β) (k : Nat) (v : (den ear)) : Option β := (F44 k v.1 0 1000000).bind fun b1 => cond (!b1) (RET false) ((F44 k v.2.1 1 32).bind fun b2 => cond (!b2) (RET false) (cond (decide ((v.2.2.1.length : Int) > v.2.1)) (RET false) (LP0 0)))
def F108 (k : Nat) (v : (den ear)) : Option (Bool) := F108_T (F108_l0 k v k) some k v
theorem F108_ev {β : Type} (k : Nat) (v : (den ear)) (K : KT β) : evalF (F108_E k) Tryz.f108 (PsT.put F108_A (v, ())) K = (F108 k v).bind fun r => K (F108_O.put r) :=
 Eq.trans (b := F108_T (F108_l0_g k v K k) (fun r => K (F108_O.put r)) k v) (by kernel_rfl) (by simp only [F108, F108_T, z1, z2, z3, z4, z5, u_ear, F108_l0_lp])
def F108_d (k : Nat) : FD := ⟨108, F108_A, F108_O, F108 k⟩
theorem F108_q (k : Nat) : (F108_d k).Ok Tryz.prog := ⟨fun x => con_of (envOk (tabsOk (.c (F44_q k) .n)) _ _ _ _) mixed Tryz.func108 rfl rfl (F108_ev k _ some), .of (by kernel_rfl)⟩
abbrev F109_E (k : Nat) : Env := env (tabs [F44_d k]) noHint .own [] k
abbrev F109_A : List PA := [.agg (.pair mI (.pair mI mI))]
abbrev F109_O : RO := ⟨[.v], [mB]⟩
def F109_T {β : Type} (RET : Bool → Option β) (k : Nat) (v : (den clk)) : Option β := (F44 k v.1 0 80000).bind fun b1 => cond b1 ((F44 k v.2.1 0 80000).bind fun b2 => cond b2 ((F44 k v.2.2 4 200).bind fun b3 => RET b3) (RET false)) (RET false)
def F109 := F109_T (β := Bool) some
theorem F109_ev {β : Type} (k : Nat) (v : (den clk)) (K : KT β) : evalF (F109_E k) Tryz.f109 (PsT.put F109_A (v, ())) K = (F109 k v).bind fun r => K (F109_O.put r) :=
 Eq.trans (b := F109_T (fun r => K (F109_O.put r)) k v) (by kernel_rfl) (by simp only [F109, F109_T, z1, z2, z3, z4, z5])
def F109_d (k : Nat) : FD := ⟨109, F109_A, F109_O, F109 k⟩
theorem F109_q (k : Nat) : (F109_d k).Ok Tryz.prog := ⟨fun x => con_of (envOk (tabsOk (.c (F44_q k) .n)) _ _ _ _) mixed Tryz.func109 rfl rfl (F109_ev k _ some), .of (by kernel_rfl)⟩
abbrev F110_E (k : Nat) : Env := env noTab noHint .own [] k
abbrev F110_A : List PA := [.agg (.pair mI (.pair mI m_9))]
abbrev F110_O : RO := ⟨[.v], [mB]⟩
def F110_T {β : Type} (RET : Bool → Option β) (k : Nat) (v : (den fin)) : Option β := cond (v.1 == 2) (RET true) (cond (v.1 == 3) (RET true) (cond (v.1 == 4) (cond (decide (v.2.2.2.2.2.2.1.2.2.1 > 0)) (RET true) (cond v.2.2.2.2.2.2.2.2.2.1 (cond (!v.2.2.2.2.2.2.2.2.2.2.1) (RET true) (RET (decide ((v.2.2.2.2.2.2.1.2.1.length : Int) > 0)))) (RET (decide ((v.2.2.2.2.2.2.1.2.1.length : Int) > 0))))) (RET false)))
def F110 := F110_T (β := Bool) some
theorem F110_ev {β : Type} (k : Nat) (v : (den fin)) (K : KT β) : evalF (F110_E k) Tryz.f110 (PsT.put F110_A (v, ())) K = (F110 k v).bind fun r => K (F110_O.put r) :=
 Eq.trans (b := F110_T (fun r => K (F110_O.put r)) k v) (by kernel_rfl) (by simp only [F110, F110_T, z1, z2, z3, z4, z5])
def F110_d (k : Nat) : FD := ⟨110, F110_A, F110_O, F110 k⟩
theorem F110_q (k : Nat) : (F110_d k).Ok Tryz.prog := ⟨fun x => con_of (envOk .none _ _ _ _) mixed Tryz.func110 rfl rfl (F110_ev k _ some), .of (by kernel_rfl)⟩
def F42_k1 : Hint := keepH [1] [1000, 1001, 1002, 1003, 1004, 1005, 1006, 1007, 1008, 1009, 1010, 1011, 1012, 1013, 1014, 1015, 1016, 1017, 1018, 1019, 1020, 1021, 1022, 1023]
def F42_k2 : Hint := keepH [1] [1000, 1001, 1002, 1003, 1004, 1005, 1006, 1007, 1008, 1009, 1010, 1011, 1012, 1013, 1014, 1015, 1016, 1017, 1018, 1019, 1020, 1021, 1022, 1023]
def F42_k3 : Hint := keepH [1] [1000, 1001, 1002, 1003, 1004, 1005, 1006, 1007, 1008, 1009, 1010, 1011, 1012, 1013, 1014, 1015, 1016, 1017, 1018, 1019, 1020, 1021, 1022, 1023]
def F42_k4 : Hint := keepH [1] [1000, 1001, 1002, 1003, 1004, 1005, 1006, 1007, 1008, 1009, 1010, 1011, 1012, 1013, 1014, 1015, 1016, 1017, 1018, 1019, 1020, 1021, 1022, 1023]
def F42_k5 : Hint := keepH [1] [1000, 1001, 1002, 1003, 1004, 1005, 1006, 1007, 1008, 1009, 1010, 1011, 1012, 1013, 1014, 1015, 1016, 1017, 1018, 1019, 1020, 1021, 1022, 1023]
def F42_rh : Nat → Option Hint
 | 3 => some F42_k1
 | 7 => some F42_k2
 | 9 => some F42_k3
 | 11 => some F42_k4
 | 14 => some F42_k5
 | _ => none
abbrev F42_E (k : Nat) : Env := { env (tabs [F44_d k, F107_d k, F108_d k, F109_d k, F110_d k]) noHint .own [] k with rh := F42_rh }
abbrev F42_A : List PA := [.agg (.pair mI (.pair mI m_9))]
abbrev F42_O : RO := ⟨[.v], [mB]⟩
noncomputable def F42_z {β : Type} (k : Nat) (v : (den fin)) (K : KT β) : Ex → St → Option β := endC (F42_E k) Tryz.f42 (PsT.put F42_A (v, ())) K
def F42_s1 (v : (den fin)) : St := ⟨(.one .d) :: (.one (.ptr (.cell 1000) 24 0)) :: dz 188 [], rowE 1000 (lsM (.pair mI (.pair mI m_9)) v) []⟩
def F42_s2 (v : (den fin)) : St := ⟨(.one .d) :: (.one (.ptr (.cell 1000) 24 0)) :: dz 188 [], rowE 1000 (lsM (.pair mI (.pair mI m_9)) v) []⟩
def F42_s3 (v : (den fin)) : St := ⟨(.one .d) :: (.one (.ptr (.cell 1000) 24 0)) :: dz 188 [], rowE 1000 (lsM (.pair mI (.pair mI m_9)) v) []⟩
def F42_s4 (v : (den fin)) : St := ⟨(.one .d) :: (.one (.ptr (.cell 1000) 24 0)) :: dz 188 [], rowE 1000 (lsM (.pair mI (.pair mI m_9)) v) []⟩
def F42_s5 (v : (den fin)) : St := ⟨(.one .d) :: (.one (.ptr (.cell 1000) 24 0)) :: dz 188 [], rowE 1000 (lsM (.pair mI (.pair mI m_9)) v) []⟩
def F42_c5t {β : Type} (RET : Bool → Option β) (k : Nat) (v : (den fin)) : Option β := cond (v.2.2.2.2.2.2.2.2.2.2.2.1 == (-1)) (RET true) ((F44 k v.2.2.2.2.2.2.2.2.2.2.2.1 v.2.2.2.2.2.2.2.1.1 1000000).bind fun b109 => RET b109)
def F42_c5 {β : Type} (k : Nat) (v : (den fin)) (RET : Bool → Option β) : Option β := F42_c5t RET k v
theorem F42_c5_b {β γ : Type} (k : Nat) (v : (den fin)) (RET : Bool → Option β) (g : β → Option γ) : (F42_c5 k v RET).bind g = F42_c5 k v (fun r => (RET r).bind g) := by
 simp only [F42_c5, F42_c5t, z1, z2, z4]
theorem F42_c5_e {β : Type} (k : Nat) (v : (den fin)) (K : KT β) : restC (F42_E k) (codeAt [1, 1, 1, 1, 1, 1, 1] (bodyOf Tryz.f42)) (F42_z k v K) (F42_s5 v) = F42_c5 k v (fun r => K (F42_O.put r)) := by kernel_rfl
def F42_c4t {β : Type} (RET : Bool → Option β) (GT : Option β) (k : Nat) (v : (den fin)) : Option β := cond (decide ((v.2.2.2.2.2.2.2.1.2.2.2.length : Int) > 0)) (cond (v.2.2.2.2.2.2.2.2.2.2.2.1 != (-1)) (ixc (i64.wrap ((v.2.2.2.2.2.2.2.1.2.2.2.length : Int) - 1)) v.2.2.2.2.2.2.2.1.2.2.2 (cond (decide ((atI v.2.2.2.2.2.2.2.1.2.2.2 (i64.wrap ((v.2.2.2.2.2.2.2.1.2.2.2.length : Int) - 1))).1 ≥ v.2.2.2.2.2.2.2.2.2.2.2.1)) (RET false) GT)) GT) GT
def F42_c4 {β : Type} (k : Nat) (v : (den fin)) (RET : Bool → Option β) : Option β := F42_c4t RET (F42_c5 k v RET) k v
theorem F42_c4_b {β γ : Type} (k : Nat) (v : (den fin)) (RET : Bool → Option β) (g : β → Option γ) : (F42_c4 k v RET).bind g = F42_c4 k v (fun r => (RET r).bind g) := by
 simp only [F42_c4, F42_c4t, z1, z2, z4, F42_c5_b]
theorem F42_c4_p {β : Type} (k : Nat) (v : (den fin)) (t : St → Option β) (K : KT β) : regS (F42_E k) (codeAt [1, 1, 1, 1, 1, 1, 0] (bodyOf Tryz.f42)) (F42_s4 v) (thenK (F42_E k) F42_k5 t (F42_z k v K)) =
  F42_c4t (fun r => K (F42_O.put r)) (t (F42_s5 v)) k v := by kernel_rfl
theorem F42_c4_q : (codeAt [1, 1, 1, 1, 1, 1] (bodyOf Tryz.f42)) = (.seq (codeAt [1, 1, 1, 1, 1, 1, 0] (bodyOf Tryz.f42)) (codeAt [1, 1, 1, 1, 1, 1, 1] (bodyOf Tryz.f42))) := by kernel_rfl
theorem F42_c4_e {β : Type} (k : Nat) (v : (den fin)) (K : KT β) : restC (F42_E k) (codeAt [1, 1, 1, 1, 1, 1] (bodyOf Tryz.f42)) (F42_z k v K) (F42_s4 v) = F42_c4 k v (fun r => K (F42_O.put r)) := by
 rw [F42_c4_q, restC_seq, thenC_kill (c := (codeAt [1, 1, 1, 1, 1, 1, 1] (bodyOf Tryz.f42))) (i := 14) (h := F42_k5) (by kernel_rfl) rfl, F42_c4_p]
 simp only [F42_c5_e, F42_c4]
def F42_c3t {β : Type} (RET : Bool → Option β) (GT : Option β) (k : Nat) (v : (den fin)) : Option β := cond (!((decide (v.2.2.2.2.1 > 0)) == (decide (v.1 ≥ 2)))) (RET false) ((F110 k v).bind fun b108 => cond (!b108) (cond (decide (v.2.2.2.2.2.2.2.2.2.2.2.2.1 > 0)) (RET false) (cond (decide (v.2.2.2.2.2.2.2.2.2.2.2.2.2.1 > 0)) (cond (v.1 != 5) (RET false) GT) GT)) GT)
def F42_c3 {β : Type} (k : Nat) (v : (den fin)) (RET : Bool → Option β) : Option β := F42_c3t RET (F42_c4 k v RET) k v
theorem F42_c3_b {β γ : Type} (k : Nat) (v : (den fin)) (RET : Bool → Option β) (g : β → Option γ) : (F42_c3 k v RET).bind g = F42_c3 k v (fun r => (RET r).bind g) := by
 simp only [F42_c3, F42_c3t, z1, z2, z4, F42_c4_b]
theorem F42_c3_p {β : Type} (k : Nat) (v : (den fin)) (t : St → Option β) (K : KT β) : regS (F42_E k) (codeAt [1, 1, 1, 1, 1, 0] (bodyOf Tryz.f42)) (F42_s3 v) (thenK (F42_E k) F42_k4 t (F42_z k v K)) =
  F42_c3t (fun r => K (F42_O.put r)) (t (F42_s4 v)) k v := by kernel_rfl
theorem F42_c3_q : (codeAt [1, 1, 1, 1, 1] (bodyOf Tryz.f42)) = (.seq (codeAt [1, 1, 1, 1, 1, 0] (bodyOf Tryz.f42)) (codeAt [1, 1, 1, 1, 1, 1] (bodyOf Tryz.f42))) := by kernel_rfl
theorem F42_c3_e {β : Type} (k : Nat) (v : (den fin)) (K : KT β) : restC (F42_E k) (codeAt [1, 1, 1, 1, 1] (bodyOf Tryz.f42)) (F42_z k v K) (F42_s3 v) = F42_c3 k v (fun r => K (F42_O.put r)) := by
 rw [F42_c3_q, restC_seq, thenC_kill (c := (codeAt [1, 1, 1, 1, 1, 1] (bodyOf Tryz.f42))) (i := 11) (h := F42_k4) (by kernel_rfl) rfl, F42_c3_p]
 simp only [F42_c4_e, F42_c3]
def F42_c2t {β : Type} (RET : Bool → Option β) (GT : Option β) (k : Nat) (v : (den fin)) : Option β := cond (decide (v.1 < 4)) (cond (decide (v.2.2.2.2.2.2.1.2.2.1 > 0)) (RET false) (cond (v.2.2.2.2.2.2.1.1 != (i64.wrap (v.2.2.2.2.2.1 + 1))) (RET false) (cond (v.2.2.2.2.2.2.2.2.2.2.2.1 != (-1)) (RET false) GT))) GT
def F42_c2 {β : Type} (k : Nat) (v : (den fin)) (RET : Bool → Option β) : Option β := F42_c2t RET (F42_c3 k v RET) k v
theorem F42_c2_b {β γ : Type} (k : Nat) (v : (den fin)) (RET : Bool → Option β) (g : β → Option γ) : (F42_c2 k v RET).bind g = F42_c2 k v (fun r => (RET r).bind g) := by
 simp only [F42_c2, F42_c2t, z1, z2, z4, F42_c3_b]
theorem F42_c2_p {β : Type} (k : Nat) (v : (den fin)) (t : St → Option β) (K : KT β) : regS (F42_E k) (codeAt [1, 1, 1, 1, 0] (bodyOf Tryz.f42)) (F42_s2 v) (thenK (F42_E k) F42_k3 t (F42_z k v K)) =
  F42_c2t (fun r => K (F42_O.put r)) (t (F42_s3 v)) k v := by kernel_rfl
theorem F42_c2_q : (codeAt [1, 1, 1, 1] (bodyOf Tryz.f42)) = (.seq (codeAt [1, 1, 1, 1, 0] (bodyOf Tryz.f42)) (codeAt [1, 1, 1, 1, 1] (bodyOf Tryz.f42))) := by kernel_rfl
theorem F42_c2_e {β : Type} (k : Nat) (v : (den fin)) (K : KT β) : restC (F42_E k) (codeAt [1, 1, 1, 1] (bodyOf Tryz.f42)) (F42_z k v K) (F42_s2 v) = F42_c2 k v (fun r => K (F42_O.put r)) := by
 rw [F42_c2_q, restC_seq, thenC_kill (c := (codeAt [1, 1, 1, 1, 1] (bodyOf Tryz.f42))) (i := 9) (h := F42_k3) (by kernel_rfl) rfl, F42_c2_p]
 simp only [F42_c3_e, F42_c2]
def F42_c1t {β : Type} (RET : Bool → Option β) (GT : Option β) (k : Nat) (v : (den fin)) : Option β := u_fin v fun v0 _ _ _ _ v5 v6 v7 v8 _ _ _ _ _ _ v15 v16 v17 _ v19 v20 v21 v22 v23 => (F107 k v.2.2.2.2.2.2.1).bind fun b103 => cond (!b103) (RET false) (cond (decide (v6 ≤ v5)) (RET false) ((F108 k v.2.2.2.2.2.2.2.1).bind fun b104 => cond (!b104) (RET false) ((F109 k (v21, v22, v23)).bind fun b105 => cond (!b105) (RET false) ((F44 k v19 0 1000000).bind fun b106 => cond (!b106) (RET false) ((F44 k v20 0 8).bind fun b107 => cond (!b107) (RET false) (cond v17 (cond (!v16) (RET false) (cond v16 (cond (!v15) (RET false) (cond (decide (v8 < (v7.length : Int))) (RET false) (cond (decide (v0 < 4)) (RET false) GT))) GT)) (cond v16 (cond (!v15) (RET false) (cond (decide (v8 < (v7.length : Int))) (RET false) (cond (decide (v0 < 4)) (RET false) GT))) GT)))))))
def F42_c1 {β : Type} (k : Nat) (v : (den fin)) (RET : Bool → Option β) : Option β := F42_c1t RET (F42_c2 k v RET) k v
theorem F42_c1_b {β γ : Type} (k : Nat) (v : (den fin)) (RET : Bool → Option β) (g : β → Option γ) : (F42_c1 k v RET).bind g = F42_c1 k v (fun r => (RET r).bind g) := by
 simp only [F42_c1, F42_c1t, u_fin, z1, z2, z4, F42_c2_b]
theorem F42_c1_p {β : Type} (k : Nat) (v : (den fin)) (t : St → Option β) (K : KT β) : regS (F42_E k) (codeAt [1, 1, 0] (bodyOf Tryz.f42)) (F42_s1 v) (thenC (F42_E k) (codeAt [1, 1, 1, 0] (bodyOf Tryz.f42)) 0 (thenK (F42_E k) F42_k2 t (F42_z k v K))) =
  F42_c1t (fun r => K (F42_O.put r)) (t (F42_s2 v)) k v := by kernel_rfl
theorem F42_c1_q : (codeAt [1, 1] (bodyOf Tryz.f42)) = (.seq (codeAt [1, 1, 0] (bodyOf Tryz.f42)) (.seq (codeAt [1, 1, 1, 0] (bodyOf Tryz.f42)) (codeAt [1, 1, 1, 1] (bodyOf Tryz.f42)))) := by kernel_rfl
theorem F42_c1_e {β : Type} (k : Nat) (v : (den fin)) (K : KT β) : restC (F42_E k) (codeAt [1, 1] (bodyOf Tryz.f42)) (F42_z k v K) (F42_s1 v) = F42_c1 k v (fun r => K (F42_O.put r)) := by
 rw [F42_c1_q, restC_seq, thenC_seq, thenC_kill (c := (codeAt [1, 1, 1, 1] (bodyOf Tryz.f42))) (i := 7) (h := F42_k2) (by kernel_rfl) rfl, F42_c1_p]
 simp only [F42_c2_e, F42_c1]
def F42_Tt {β : Type} (RET : Bool → Option β) (GT : Option β) (k : Nat) (v : (den fin)) : Option β := (F44 k v.1 0 5).bind fun b92 => cond (!b92) (RET false) ((F44 k v.2.1 0 65535).bind fun b93 => cond (!b93) (RET false) ((F44 k v.2.2.2.1 0 65535).bind fun b94 => cond (!b94) (RET false) ((F44 k v.2.2.1 1 255).bind fun b95 => cond (!b95) (RET false) ((F44 k v.2.2.2.2.1 0 255).bind fun b96 => cond (!b96) (RET false) ((F44 k v.2.2.2.2.2.1 0 65535).bind fun b97 => cond (!b97) (RET false) GT)))))
def F42_T {β : Type} (k : Nat) (v : (den fin)) (RET : Bool → Option β) : Option β := F42_Tt RET (F42_c1 k v RET) k v
theorem F42_T_b {β γ : Type} (k : Nat) (v : (den fin)) (RET : Bool → Option β) (g : β → Option γ) : (F42_T k v RET).bind g = F42_T k v (fun r => (RET r).bind g) := by
 simp only [F42_T, F42_Tt, u_fin, z1, z2, z4, F42_c1_b]
theorem F42_T_p {β : Type} (k : Nat) (v : (den fin)) (t : St → Option β) (K : KT β) : evalC (F42_E k) (codeAt [0] (bodyOf Tryz.f42)) 0 ⟨(.agg (lsM (.pair mI (.pair mI m_9)) v)) :: uz 189 [], []⟩ (thenC (F42_E k) (codeAt [1, 0] (bodyOf Tryz.f42)) 0 (thenK (F42_E k) F42_k1 t (F42_z k v K))) =
  F42_Tt (fun r => K (F42_O.put r)) (t (F42_s1 v)) k v := by kernel_rfl
theorem F42_T_q : (codeAt [] (bodyOf Tryz.f42)) = (.seq (codeAt [0] (bodyOf Tryz.f42)) (.seq (codeAt [1, 0] (bodyOf Tryz.f42)) (codeAt [1, 1] (bodyOf Tryz.f42)))) := by kernel_rfl
theorem F42_T_e {β : Type} (k : Nat) (v : (den fin)) (K : KT β) : evalC (F42_E k) (codeAt [] (bodyOf Tryz.f42)) 0 ⟨(.agg (lsM (.pair mI (.pair mI m_9)) v)) :: uz 189 [], []⟩ (F42_z k v K) = F42_T k v (fun r => K (F42_O.put r)) := by
 rw [F42_T_q, evalC_seq, thenC_seq, thenC_kill (c := (codeAt [1, 1] (bodyOf Tryz.f42))) (i := 3) (h := F42_k1) (by kernel_rfl) rfl, F42_T_p]
 simp only [F42_c1_e, F42_T]
def F42 (k : Nat) (v : (den fin)) : Option (Bool) := F42_T k v some
theorem F42_ev {β : Type} (k : Nat) (v : (den fin)) (K : KT β) : evalF (F42_E k) Tryz.f42 (PsT.put F42_A (v, ())) K = (F42 k v).bind fun r => K (F42_O.put r) := by
 refine Eq.trans (b := evalC (F42_E k) (codeAt [] (bodyOf Tryz.f42)) 0 ⟨(.agg (lsM (.pair mI (.pair mI m_9)) v)) :: uz 189 [], []⟩ (F42_z k v K)) (by kernel_rfl) ?_
 rw [F42_T_e, F42, F42_T_b]
 simp only [z3]
def F42_d (k : Nat) : FD := ⟨42, F42_A, F42_O, F42 k⟩
theorem F42_q (k : Nat) : (F42_d k).Ok Tryz.prog := ⟨fun x => con_of (envOkR F42_rh (tabsOk (.c (F44_q k) (.c (F107_q k) (.c (F108_q k) (.c (F109_q k) (.c (F110_q k) .n)))))) _ _ _ _) mixed Tryz.func42 rfl rfl (F42_ev k _ some), .of (by kernel_rfl)⟩
abbrev F134_E (k : Nat) : Env := env (tabs [F165_d k, F42_d k]) noHint .own [] k
abbrev F134_A : List PA := [.one mI, .one mI, .one mI, .one mI]
abbrev F134_O : RO := ⟨[.a], [m_16]⟩
def F134_T {β : Type} (RET : (den fin) → Option β) (k : Nat) (v w p q : Int) : Option β := (F165 k 0).bind fun b1 => (F42 k (0, v, w, 0, 0, p, (i64.wrap (p + 1), [], 0, 0, []), (0, q, [], []), false, false, false, (-1), 0, 0, b1)).bind fun b2 => cond (!b2) (RET (0, 0, 0, 0, 0, 0, (0, [], 0, 0, []), (0, 0, [], []), false, false, false, 0, 0, 0, 0, 0, 0)) (RET (0, v, w, 0, 0, p, (i64.wrap (p + 1), [], 0, 0, []), (0, q, [], []), false, false, false, (-1), 0, 0, b1))
def F134 := F134_T (β := (den fin)) some
theorem F134_ev {β : Type} (k : Nat) (v w p q : Int) (K : KT β) : evalF (F134_E k) Tryz.f134 (PsT.put F134_A (v, w, p, q, ())) K = (F134 k v w p q).bind fun r => K (F134_O.put r) :=
 Eq.trans (b := F134_T (fun r => K (F134_O.put r)) k v w p q) (by kernel_rfl) (by simp only [F134, F134_T, z1, z2, z3, z4, z5])
def F134_d (k : Nat) : FD := ⟨134, F134_A, F134_O, F134 k⟩
theorem F134_q (k : Nat) : (F134_d k).Ok Tryz.prog := ⟨fun x => con_of (envOk (tabsOk (.c (F165_q k) (.c (F42_q k) .n))) _ _ _ _) mixed Tryz.func134 rfl rfl (F134_ev k _ _ _ _ some), .of (by kernel_rfl)⟩
abbrev F111_E (k : Nat) : Env := env noTab noHint .own [] k
abbrev F111_A : List PA := [.agg (.pair mI m_3)]
abbrev F111_O : RO := ⟨[.a], [.pair mI m_11]⟩
def F111_T {β : Type} (RET : (den mth) → Option β) (k : Nat) (v : (den mth)) : Option β := u_mth v fun v0 v1 v2 v3 v4 => szc (([] : L_u8).length) (v1.length) 1 (szc (([] : L_rng).length) (v4.length) 16 (RET (v0, [] ++ v1, v2, v3, [] ++ v4)))
def F111 := F111_T (β := (den mth)) some
theorem F111_ev {β : Type} (k : Nat) (v : (den mth)) (K : KT β) : evalF (F111_E k) Tryz.f111 (PsT.put F111_A (v, ())) K = (F111 k v).bind fun r => K (F111_O.put r) :=
 Eq.trans (b := F111_T (fun r => K (F111_O.put r)) k v) (by kernel_rfl) (by simp only [F111, F111_T, z1, z2, z3, z4, z5, u_mth])
def F111_d (k : Nat) : FD := ⟨111, F111_A, F111_O, F111 k⟩
theorem F111_q (k : Nat) : (F111_d k).Ok Tryz.prog := ⟨fun x => con_of (envOk .none _ _ _ _) mixed Tryz.func111 rfl rfl (F111_ev k _ some), .of (by kernel_rfl)⟩
abbrev F45_E (k : Nat) : Env := env (tabs [F111_d k]) noHint .own [] k
abbrev F45_A : List PA := [.agg (.pair mI (.pair mI m_9))]
abbrev F45_O : RO := ⟨[.a], [m_16]⟩
def F45_T {β : Type} (RET : (den fin) → Option β) (k : Nat) (v : (den fin)) : Option β := (F111 k v.2.2.2.2.2.2.1).bind fun b1 => szc (([] : L_u8).length) (v.2.2.2.2.2.2.2.1.2.2.1.length) 1 (szc (([] : L_erl).length) (v.2.2.2.2.2.2.2.1.2.2.2.length) 16 (RET (v.1, v.2.1, v.2.2.1, v.2.2.2.1, v.2.2.2.2.1, v.2.2.2.2.2.1, b1, (v.2.2.2.2.2.2.2.1.1, v.2.2.2.2.2.2.2.1.2.1, [] ++ v.2.2.2.2.2.2.2.1.2.2.1, [] ++ v.2.2.2.2.2.2.2.1.2.2.2), v.2.2.2.2.2.2.2.2)))
def F45 := F45_T (β := (den fin)) some
theorem F45_ev {β : Type} (k : Nat) (v : (den fin)) (K : KT β) : evalF (F45_E k) Tryz.f45 (PsT.put F45_A (v, ())) K = (F45 k v).bind fun r => K (F45_O.put r) :=
 Eq.trans (b := F45_T (fun r => K (F45_O.put r)) k v) (by kernel_rfl) (by simp only [F45, F45_T, z1, z2, z3, z4, z5, u_fin])
def F45_d (k : Nat) : FD := ⟨45, F45_A, F45_O, F45 k⟩
theorem F45_q (k : Nat) : (F45_d k).Ok Tryz.prog := ⟨fun x => con_of (envOk (tabsOk (.c (F111_q k) .n)) _ _ _ _) mixed Tryz.func45 rfl rfl (F45_ev k _ some), .of (by kernel_rfl)⟩
abbrev F135_E (k : Nat) : Env := env (tabs [F42_d k, F45_d k]) noHint .own [] k
abbrev F135_A : List PA := [.agg (.pair mI (.pair mI m_9))]
abbrev F135_O : RO := ⟨[.a, .v], [m_16, mB]⟩
def F135_T {β : Type} (RET : (den fin) × Bool → Option β) (k : Nat) (v : (den fin)) : Option β := (F42 k v).bind fun b1 => cond (!b1) (RET ((0, 0, 0, 0, 0, 0, (0, [], 0, 0, []), (0, 0, [], []), false, false, false, 0, 0, 0, 0, 0, 0), false)) ((F45 k v).bind fun b2 => cond (v.1 != 0) (RET (b2, false)) (RET ((1, b2.2), true)))
def F135 := F135_T (β := (den fin) × Bool) some
theorem F135_ev {β : Type} (k : Nat) (v : (den fin)) (K : KT β) : evalF (F135_E k) Tryz.f135 (PsT.put F135_A (v, ())) K = (F135 k v).bind fun r => K (F135_O.put r) :=
 Eq.trans (b := F135_T (fun r => K (F135_O.put r)) k v) (by kernel_rfl) (by simp only [F135, F135_T, z1, z2, z3, z4, z5, u_fin])
def F135_d (k : Nat) : FD := ⟨135, F135_A, F135_O, F135 k⟩
theorem F135_q (k : Nat) : (F135_d k).Ok Tryz.prog := ⟨fun x => con_of (envOk (tabsOk (.c (F42_q k) (.c (F45_q k) .n))) _ _ _ _) mixed Tryz.func135 rfl rfl (F135_ev k _ some), .of (by kernel_rfl)⟩
abbrev F48_E (k : Nat) : Env := env (tabs [F110_d k]) noHint .own [] k
abbrev F48_A : List PA := [.agg (.pair mI (.pair mI m_9)), .one mI, .one mB]
abbrev F48_O : RO := ⟨[.a], [.pair mI (.pair mI m_9)]⟩
def F48_T {β : Type} (RET : (den fin) → Option β) (k : Nat) (v : (den fin)) (w : Int) (p : Bool) : Option β := u_fin v fun v0 v1 v2 v3 v4 v5 _ _ _ _ _ _ _ _ _ v15 v16 v17 v18 v19 _ v21 v22 v23 => cond p ((F110 k (v0, v1, v2, v3, v4, v5, v.2.2.2.2.2.2.1, v.2.2.2.2.2.2.2.1, v15, v16, v17, v18, v19, 0, v21, v22, v23)).bind fun b1 => cond (!b1) (cond (v0 != 5) (RET (v0, v1, v2, v3, v4, v5, v.2.2.2.2.2.2.1, v.2.2.2.2.2.2.2.1, v15, v16, v17, v18, 0, 0, v21, v22, v23)) (RET (v0, v1, v2, v3, v4, v5, v.2.2.2.2.2.2.1, v.2.2.2.2.2.2.2.1, v15, v16, v17, v18, 0, 0, v21, v22, v23))) (cond p (RET (v0, v1, v2, v3, v4, v5, v.2.2.2.2.2.2.1, v.2.2.2.2.2.2.2.1, v15, v16, v17, v18, i64.wrap (w + v23), 0, v21, v22, v23)) (cond (v19 == 0) (RET (v0, v1, v2, v3, v4, v5, v.2.2.2.2.2.2.1, v.2.2.2.2.2.2.2.1, v15, v16, v17, v18, i64.wrap (w + v23), 0, v21, v22, v23)) (RET (v0, v1, v2, v3, v4, v5, v.2.2.2.2.2.2.1, v.2.2.2.2.2.2.2.1, v15, v16, v17, v18, v19, 0, v21, v22, v23))))) ((F110 k v).bind fun b2 => cond (!b2) (cond (v0 != 5) (RET (v0, v1, v2, v3, v4, v5, v.2.2.2.2.2.2.1, v.2.2.2.2.2.2.2.1, v15, v16, v17, v18, 0, 0, v21, v22, v23)) (RET (v0, v1, v2, v3, v4, v5, v.2.2.2.2.2.2.1, v.2.2.2.2.2.2.2.1, v15, v16, v17, v18, 0, v.2.2.2.2.2.2.2.2.2.2.2.2.2))) (cond p (RET (v0, v1, v2, v3, v4, v5, v.2.2.2.2.2.2.1, v.2.2.2.2.2.2.2.1, v15, v16, v17, v18, i64.wrap (w + v23), v.2.2.2.2.2.2.2.2.2.2.2.2.2)) (cond (v19 == 0) (RET (v0, v1, v2, v3, v4, v5, v.2.2.2.2.2.2.1, v.2.2.2.2.2.2.2.1, v15, v16, v17, v18, i64.wrap (w + v23), v.2.2.2.2.2.2.2.2.2.2.2.2.2)) (RET v))))
def F48 := F48_T (β := (den fin)) some
theorem F48_ev {β : Type} (k : Nat) (v : (den fin)) (w : Int) (p : Bool) (K : KT β) : evalF (F48_E k) Tryz.f48 (PsT.put F48_A (v, w, p, ())) K = (F48 k v w p).bind fun r => K (F48_O.put r) :=
 Eq.trans (b := F48_T (fun r => K (F48_O.put r)) k v w p) (by kernel_rfl) (by simp only [F48, F48_T, z1, z2, z3, z4, z5, u_fin])
def F48_d (k : Nat) : FD := ⟨48, F48_A, F48_O, F48 k⟩
theorem F48_q (k : Nat) : (F48_d k).Ok Tryz.prog := ⟨fun x => con_of (envOk (tabsOk (.c (F110_q k) .n)) _ _ _ _) mixed Tryz.func48 rfl rfl (F48_ev k _ _ _ some), .of (by kernel_rfl)⟩
abbrev F46_E (k : Nat) : Env := env noTab noHint .own [] k
abbrev F46_A : List PA := [.one mI]
abbrev F46_O : RO := ⟨[.v], [mI]⟩
def F46_T {β : Type} (RET : Int → Option β) (k : Nat) (v : Int) : Option β := cond (decide ((v.tmod 65536) < 0)) (RET (i64.wrap ((v.tmod 65536) + 65536))) (RET (v.tmod 65536))
def F46 := F46_T (β := Int) some
theorem F46_ev {β : Type} (k : Nat) (v : Int) (K : KT β) : evalF (F46_E k) Tryz.f46 (PsT.put F46_A (v, ())) K = (F46 k v).bind fun r => K (F46_O.put r) :=
 Eq.trans (b := F46_T (fun r => K (F46_O.put r)) k v) (by kernel_rfl) (by simp only [F46, F46_T, z1, z2, z3, z4, z5])
def F46_d (k : Nat) : FD := ⟨46, F46_A, F46_O, F46 k⟩
theorem F46_q (k : Nat) : (F46_d k).Ok Tryz.prog := ⟨fun x => con_of (envOk .none _ _ _ _) mixed Tryz.func46 rfl rfl (F46_ev k _ some), .of (by kernel_rfl)⟩
abbrev F47_E (k : Nat) : Env := env noTab noHint .own [] k
abbrev F47_A : List PA := [.agg (.pair mI (.pair mI m_9))]
abbrev F47_O : RO := ⟨[.v], [mI]⟩
def F47 (k : Nat) (v : (den fin)) : Option (Int) := cond (v.2.2.2.2.2.2.2.2.2.2.2.1 == v.2.2.2.2.2.2.2.1.1) (some (i64.wrap (v.2.2.2.2.2.2.2.1.1 + 1))) (some v.2.2.2.2.2.2.2.1.1)
theorem F47_ev {β : Type} (k : Nat) (v : (den fin)) (K : KT β) : evalF (F47_E k) Tryz.f47 (PsT.put F47_A (v, ())) K = (F47 k v).bind fun r => K (F47_O.put r) :=
 Eq.trans (b := cond (v.2.2.2.2.2.2.2.2.2.2.2.1 == v.2.2.2.2.2.2.2.1.1) (K (F47_O.put (i64.wrap (v.2.2.2.2.2.2.2.1.1 + 1)))) (K (F47_O.put v.2.2.2.2.2.2.2.1.1))) (by kernel_rfl) (by simp only [F47, z1, z2, z3, z4, z5, u_fin])
def F47_d (k : Nat) : FD := ⟨47, F47_A, F47_O, F47 k⟩
theorem F47_q (k : Nat) : (F47_d k).Ok Tryz.prog := ⟨fun x => con_of (envOk .none _ _ _ _) mixed Tryz.func47 rfl rfl (F47_ev k _ some), .of (by kernel_rfl)⟩
end
end Go.Proofs.YtjkkbmkkljpcjaaGreat.Gn
end

section
set_option linter.unusedVariables false
set_option linter.unusedSimpArgs false
namespace Go.Proofs.YtjkkbmkkljpcjaaGreat.Gn
open Go.Rf IntKind
noncomputable section
abbrev F114_E (k : Nat) : Env := env (tabs [F108_d k]) noHint .own [] k
abbrev F114_A : List PA := [.agg (.pair mI (.pair mI m_4))]
abbrev F114_O : RO := ⟨[.v], [mI]⟩
def F114 (k : Nat) (v : (den ear)) : Option (Int) := (F108 k v).bind fun b1 => cond (!b1) (some 0) (some (i64.wrap (v.2.1 - (v.2.2.1.length : Int))))
theorem F114_ev {β : Type} (k : Nat) (v : (den ear)) (K : KT β) : evalF (F114_E k) Tryz.f114 (PsT.put F114_A (v, ())) K = (F114 k v).bind fun r => K (F114_O.put r) :=
 Eq.trans (b := (F108 k v).bind fun b1 => cond (!b1) (K (F114_O.put 0)) (K (F114_O.put (i64.wrap (v.2.1 - (v.2.2.1.length : Int)))))) (by kernel_rfl) (by simp only [F114, z1, z2, z3, z4, z5, u_ear])
def F114_d (k : Nat) : FD := ⟨114, F114_A, F114_O, F114 k⟩
theorem F114_q (k : Nat) : (F114_d k).Ok Tryz.prog := ⟨fun x => con_of (envOk (tabsOk (.c (F108_q k) .n)) _ _ _ _) mixed Tryz.func114 rfl rfl (F114_ev k _ some), .of (by kernel_rfl)⟩
def F115_h : Nat → Hint
 | 0 => ⟨pl 1 1 ((3, .own .own rng []) :: (pl 4 1 [])), pl 1000 4 []⟩
 | _ => ⟨[], []⟩
abbrev F115_E (k : Nat) : Env := env (tabs [F108_d k]) F115_h .own [] k
abbrev F115_A : List PA := [.agg (.pair mI (.pair mI m_4))]
abbrev F115_O : RO := ⟨[.v], [.sl .own rng]⟩
noncomputable def F115_z {β : Type} (k : Nat) (v : (den ear)) (K : KT β) : Ex → St → Option β := endC (F115_E k) Tryz.f115 (PsT.put F115_A (v, ())) K
def F115_s0 (v : (den ear)) (x4_0 : Int) (m3900_0 : L_rng) : St := ⟨(.one .d) :: (.one (.ptr (.cell 1000) 4 0)) :: (.one .d) :: (.one (.a (.cell 3900) 0 0 none)) :: (.one (vI x4_0)) :: dz 63 [], rowE 1000 (lsM (.pair mI (.pair mI m_4)) v) [eM 3900 (.s .own rng m3900_0)]⟩
noncomputable def F115_l0_g {β : Type} (k : Nat) (v : (den ear)) (K : KT β) (n : Nat) (x4_0 : Int) (m3900_0 : L_rng) : Option β := loopG (F115_E k) Tryz.f115 [1, 1, 1, 0, 1, 0] 0 (kontAt (F115_E k) [1, 1, 1, 0, 1, 0] (bodyOf Tryz.f115) 0 (F115_z k v K)) n (F115_s0 v x4_0 m3900_0)
def F115_l0_j1 {β : Type} (k : Nat) (v : (den ear)) (NX : Int → L_rng → Option β) (RET : L_rng → Option β) (m3900_0 : L_rng) (x4_0 : Int) : Option β := u_ear v fun _ _ _ v3 => cond (decide ((m3900_0.length : Int) < 2)) (ixc x4_0 v3 (ixc x4_0 v3 (szc (m3900_0.length) ([((atI v3 x4_0).1, i64.wrap ((atI v3 x4_0).1 + 1))].length) 16 (NX (i64.wrap (x4_0 + 1)) (m3900_0 ++ [((atI v3 x4_0).1, i64.wrap ((atI v3 x4_0).1 + 1))]))))) (NX (i64.wrap (x4_0 + 1)) m3900_0)
def F115_l0_T {β : Type} (NX : Int → L_rng → Option β) (RET : L_rng → Option β) (k : Nat) (v : (den ear)) (x4_0 : Int) (m3900_0 : L_rng) : Option β := cond (decide (x4_0 < (v.2.2.2.length : Int))) (cond (decide ((i64.wrap ((m3900_0.length : Int) - 1)) ≥ 0)) (ixc (i64.wrap ((m3900_0.length : Int) - 1)) m3900_0 (ixc x4_0 v.2.2.2 (cond ((atI m3900_0 (i64.wrap ((m3900_0.length : Int) - 1))).2 == (atI v.2.2.2 x4_0).1) (ixc (i64.wrap ((m3900_0.length : Int) - 1)) m3900_0 (ixc (i64.wrap ((m3900_0.length : Int) - 1)) m3900_0 (NX (i64.wrap (x4_0 + 1)) (m3900_0.set ((i64.wrap ((m3900_0.length : Int) - 1)).toNat) ((atI m3900_0 (i64.wrap ((m3900_0.length : Int) - 1))).1, i64.wrap ((atI m3900_0 (i64.wrap ((m3900_0.length : Int) - 1))).2 + 1)))))) (F115_l0_j1 k v NX RET m3900_0 x4_0)))) (F115_l0_j1 k v NX RET m3900_0 x4_0)) (RET m3900_0)
def F115_l0 (k : Nat) (v : (den ear)) : Nat → Int → L_rng → Option (L_rng)
 | 0, _, _ => none
 | n + 1, x4_0, m3900_0 => F115_l0_T (F115_l0 k v n) some k v x4_0 m3900_0
theorem F115_l0_lp {β : Type} (k : Nat) (v : (den ear)) (K : KT β) (n : Nat) : ∀ (x4_0 : Int) (m3900_0 : L_rng), F115_l0_g k v K n x4_0 m3900_0 =
  (F115_l0 k v n x4_0 m3900_0).bind fun r => K (F115_O.put r) := by
 induction n with
 | zero => intros; rfl
 | succ n ih =>
  intro x4_0 m3900_0
  refine Eq.trans (b := F115_l0_T (F115_l0_g k v K n) (fun r => K (F115_O.put r)) k v x4_0 m3900_0) (by kernel_rfl) ?_
  rw [F115_l0]
  simp only [F115_l0_T, F115_l0_j1, z1, z2, z3, z4, z5, u_ear, ih]
def F115_T {β : Type} (LP0 : Int → L_rng → Option β) (RET : L_rng → Option β) (k : Nat) (v : (den ear)) : Option β := (F108 k v).bind fun b1 => cond (!b1) (RET []) (LP0 0 [])
def F115 (k : Nat) (v : (den ear)) : Option (L_rng) := F115_T (F115_l0 k v k) some k v
theorem F115_ev {β : Type} (k : Nat) (v : (den ear)) (K : KT β) : evalF (F115_E k) Tryz.f115 (PsT.put F115_A (v, ())) K = (F115 k v).bind fun r => K (F115_O.put r) :=
 Eq.trans (b := F115_T (F115_l0_g k v K k) (fun r => K (F115_O.put r)) k v) (by kernel_rfl) (by simp only [F115, F115_T, z1, z2, z3, z4, z5, u_ear, F115_l0_lp])
def F115_d (k : Nat) : FD := ⟨115, F115_A, F115_O, F115 k⟩
theorem F115_q (k : Nat) : (F115_d k).Ok Tryz.prog := ⟨fun x => con_of (envOk (tabsOk (.c (F108_q k) .n)) _ _ _ _) mixed Tryz.func115 rfl rfl (F115_ev k _ some), .of (by kernel_rfl)⟩
def F51_h : Nat → Hint
 | 0 => ⟨pl 4 4 [], pl 4000 11 (pl 5000 9 ((5009, .own .own rng []) :: (pl 5010 1 (pl 30000 1 []))))⟩
 | _ => ⟨[], []⟩
abbrev F51_E (k : Nat) : Env := env (tabs [F46_d k, F47_d k, F114_d k, F115_d k]) F51_h .own [] k
abbrev F51_A : List PA := [.agg (.pair mI (.pair mI m_9)), .one mI]
abbrev F51_O : RO := ⟨[.a], [m_20]⟩
noncomputable def F51_z {β : Type} (k : Nat) (v : (den fin)) (w : Int) (K : KT β) : Ex → St → Option β := endC (F51_E k) Tryz.f51 (PsT.put F51_A (v, w, ())) K
def F51_s0 (v : (den fin)) (w : Int) (x7_0 : Int) (m5000_0 : (den seg)) (m30000_0 : L_rng) : St := ⟨dz 4 ((.one (.ptr (.cell 4000) 11 0)) :: (.one (.ptr (.cell 5000) 11 0)) :: (.one (.a (.cell 30000) 0 0 none)) :: (.one (vI x7_0)) :: dz 48 []), rowE 4000 (lsM m_20 (0, 0, 0, 0, 0, false, false, false, false, [], [])) (rowE 5000 (lsM m_20 m5000_0) [eM 30000 (.s .own rng m30000_0)])⟩
noncomputable def F51_l0_g {β : Type} (k : Nat) (v : (den fin)) (w : Int) (K : KT β) (n : Nat) (x7_0 : Int) (m5000_0 : (den seg)) (m30000_0 : L_rng) : Option β := loopG (F51_E k) Tryz.f51 [1, 1, 1, 1, 1, 1, 1, 0, 1, 0] 0 (kontAt (F51_E k) [1, 1, 1, 1, 1, 1, 1, 0, 1, 0] (bodyOf Tryz.f51) 0 (F51_z k v w K)) n (F51_s0 v w x7_0 m5000_0 m30000_0)
def F51_l0_T {β : Type} (NX : Int → (den seg) → L_rng → Option β) (RET : (den seg) → Option β) (k : Nat) (v : (den fin)) (w : Int) (x7_0 : Int) (m5000_0 : (den seg)) (m30000_0 : L_rng) : Option β := cond (decide (x7_0 < (m30000_0.length : Int))) (ixc x7_0 m30000_0 ((F46 k (atI m30000_0 x7_0).1).bind fun b6 => ixc x7_0 m30000_0 ((F46 k (atI m30000_0 x7_0).2).bind fun b7 => szc (m5000_0.2.2.2.2.2.2.2.2.2.1.length) ([(b6, b7)].length) 16 (NX (i64.wrap (x7_0 + 1)) (m5000_0.1, m5000_0.2.1, m5000_0.2.2.1, m5000_0.2.2.2.1, m5000_0.2.2.2.2.1, m5000_0.2.2.2.2.2.1, m5000_0.2.2.2.2.2.2.1, m5000_0.2.2.2.2.2.2.2.1, m5000_0.2.2.2.2.2.2.2.2.1, m5000_0.2.2.2.2.2.2.2.2.2.1 ++ [(b6, b7)], m5000_0.2.2.2.2.2.2.2.2.2.2) m30000_0)))) (RET m5000_0)
def F51_l0 (k : Nat) (v : (den fin)) (w : Int) : Nat → Int → (den seg) → L_rng → Option ((den seg))
 | 0, _, _, _ => none
 | n + 1, x7_0, m5000_0, m30000_0 => F51_l0_T (F51_l0 k v w n) some k v w x7_0 m5000_0 m30000_0
theorem F51_l0_lp {β : Type} (k : Nat) (v : (den fin)) (w : Int) (K : KT β) (n : Nat) : ∀ (x7_0 : Int) (m5000_0 : (den seg)) (m30000_0 : L_rng), F51_l0_g k v w K n x7_0 m5000_0 m30000_0 =
  (F51_l0 k v w n x7_0 m5000_0 m30000_0).bind fun r => K (F51_O.put r) := by
 induction n with
 | zero => intros; rfl
 | succ n ih =>
  intro x7_0 m5000_0 m30000_0
  refine Eq.trans (b := F51_l0_T (F51_l0_g k v w K n) (fun r => K (F51_O.put r)) k v w x7_0 m5000_0 m30000_0) (by kernel_rfl) ?_
  rw [F51_l0]
  simp only [F51_l0_T, z1, z2, z3, z4, z5, u_fin, ih]
def F51_T {β : Type} (LP0 : Int → (den seg) → L_rng → Option β) (RET : (den seg) → Option β) (k : Nat) (v : (den fin)) (w : Int) : Option β := (F46 k w).bind fun b1 => cond (v.1 == 2) (RET (v.2.2.1, v.2.2.2.2.1, b1, 0, 0, false, false, false, false, [], [])) ((F47 k v).bind fun b2 => (F46 k b2).bind fun b3 => (F114 k v.2.2.2.2.2.2.2.1).bind fun b4 => (F115 k v.2.2.2.2.2.2.2.1).bind fun b5 => LP0 0 (v.2.2.1, v.2.2.2.2.1, b1, b3, b4, false, true, false, false, [], []) b5)
def F51 (k : Nat) (v : (den fin)) (w : Int) : Option ((den seg)) := F51_T (F51_l0 k v w k) some k v w
theorem F51_ev {β : Type} (k : Nat) (v : (den fin)) (w : Int) (K : KT β) : evalF (F51_E k) Tryz.f51 (PsT.put F51_A (v, w, ())) K = (F51 k v w).bind fun r => K (F51_O.put r) :=
 Eq.trans (b := F51_T (F51_l0_g k v w K k) (fun r => K (F51_O.put r)) k v w) (by kernel_rfl) (by simp only [F51, F51_T, z1, z2, z3, z4, z5, u_fin, F51_l0_lp])
def F51_d (k : Nat) : FD := ⟨51, F51_A, F51_O, F51 k⟩
theorem F51_q (k : Nat) : (F51_d k).Ok Tryz.prog := ⟨fun x => con_of (envOk (tabsOk (.c (F46_q k) (.c (F47_q k) (.c (F114_q k) (.c (F115_q k) .n))))) _ _ _ _) mixed Tryz.func51 rfl rfl (F51_ev k _ _ some), .of (by kernel_rfl)⟩
abbrev F49_E (k : Nat) : Env := env (tabs [F51_d k]) noHint .own [] k
abbrev F49_A : List PA := [.agg (.pair mI (.pair mI m_9))]
abbrev F49_O : RO := ⟨[.a], [m_20]⟩
def F49_T {β : Type} (RET : (den seg) → Option β) (k : Nat) (v : (den fin)) : Option β := (F51 k v v.2.2.2.2.2.1).bind fun b1 => RET (b1.1, b1.2.1, b1.2.2.1, b1.2.2.2.1, b1.2.2.2.2.1, true, b1.2.2.2.2.2.2)
def F49 := F49_T (β := (den seg)) some
theorem F49_ev {β : Type} (k : Nat) (v : (den fin)) (K : KT β) : evalF (F49_E k) Tryz.f49 (PsT.put F49_A (v, ())) K = (F49 k v).bind fun r => K (F49_O.put r) :=
 Eq.trans (b := F49_T (fun r => K (F49_O.put r)) k v) (by kernel_rfl) (by simp only [F49, F49_T, z1, z2, z3, z4, z5, u_fin])
def F49_d (k : Nat) : FD := ⟨49, F49_A, F49_O, F49 k⟩
theorem F49_q (k : Nat) : (F49_d k).Ok Tryz.prog := ⟨fun x => con_of (envOk (tabsOk (.c (F51_q k) .n)) _ _ _ _) mixed Tryz.func49 rfl rfl (F49_ev k _ some), .of (by kernel_rfl)⟩
abbrev F136_E (k : Nat) : Env := env (tabs [F42_d k, F44_d k, F45_d k, F48_d k, F49_d k]) noHint .ro [] k
abbrev F136_A : List PA := [.agg (.pair mI (.pair mI m_9)), .one mI, .one mI, .one mI]
abbrev F136_O : RO := ⟨[.a, .v], [.pair mI (.pair mI m_9), .sl .ro seg]⟩
def F136_T {β : Type} (RET : (den fin) × L_seg → Option β) (k : Nat) (v : (den fin)) (w p q : Int) : Option β := (F42 k v).bind fun b1 => cond (!b1) (RET ((0, 0, 0, 0, 0, 0, (0, [], 0, 0, []), (0, 0, [], []), false, false, false, 0, 0, 0, 0, 0, 0), [])) ((F44 k w 0 65535).bind fun b2 => cond (!b2) (RET ((0, 0, 0, 0, 0, 0, (0, [], 0, 0, []), (0, 0, [], []), false, false, false, 0, 0, 0, 0, 0, 0), [])) ((F44 k p 1 255).bind fun b3 => cond (!b3) (RET ((0, 0, 0, 0, 0, 0, (0, [], 0, 0, []), (0, 0, [], []), false, false, false, 0, 0, 0, 0, 0, 0), [])) ((F44 k q 0 900000).bind fun b4 => cond (!b4) (RET ((0, 0, 0, 0, 0, 0, (0, [], 0, 0, []), (0, 0, [], []), false, false, false, 0, 0, 0, 0, 0, 0), [])) ((F45 k v).bind fun b5 => cond (v.1 != 0) (RET (b5, [])) ((F48 k (2, b5.2.1, b5.2.2.1, w, p, b5.2.2.2.2.2) q true).bind fun b6 => (F49 k b6).bind fun b7 => RET (b6, [b7]))))))
def F136 := F136_T (β := (den fin) × L_seg) some
theorem F136_ev {β : Type} (k : Nat) (v : (den fin)) (w p q : Int) (K : KT β) : evalF (F136_E k) Tryz.f136 (PsT.put F136_A (v, w, p, q, ())) K = (F136 k v w p q).bind fun r => K (F136_O.put r) :=
 Eq.trans (b := F136_T (fun r => K (F136_O.put r)) k v w p q) (by kernel_rfl) (by simp only [F136, F136_T, z1, z2, z3, z4, z5, u_fin])
def F136_d (k : Nat) : FD := ⟨136, F136_A, F136_O, F136 k⟩
theorem F136_q (k : Nat) : (F136_d k).Ok Tryz.prog := ⟨fun x => con_of (envOk (tabsOk (.c (F42_q k) (.c (F44_q k) (.c (F45_q k) (.c (F48_q k) (.c (F49_q k) .n)))))) _ _ _ _) mixed Tryz.func136 rfl rfl (F136_ev k _ _ _ _ some), .of (by kernel_rfl)⟩
def F95_h : Nat → Hint
 | 0 => ⟨pl 0 2 ((5, .own .own (.int .u8) []) :: []), pl 0 2 []⟩
 | _ => ⟨[], []⟩
abbrev F95_E (k : Nat) : Env := env (tabs [F82_d k]) F95_h .own [(false, 0), (false, 1)] k
abbrev F95_A : List PA := [.p m_1, .one mI]
abbrev F95_O : RO := ⟨[.v], [.sl .own (.int .u8), m_1]⟩
noncomputable def F95_z {β : Type} (k : Nat) (v : (L_u8 × Int)) (w : Int) (K : KT β) : Ex → St → Option β := endC (F95_E k) Tryz.f95 (PsT.put F95_A (v, w, ())) K
def F95_s0 (v : (L_u8 × Int)) (w : Int) (x1_0 : Int) (m0_0 : (L_u8 × Int)) (m5900_0 : L_u8) : St := ⟨(.one (.ptr (.cell 0) 2 0)) :: (.one (vI x1_0)) :: dz 3 ((.one (.a (.cell 5900) 0 0 none)) :: dz 22 []), rowE 0 (lsM m_1 m0_0) [eM 5900 (.s .own (.int .u8) m5900_0)]⟩
noncomputable def F95_l0_g {β : Type} (k : Nat) (v : (L_u8 × Int)) (w : Int) (K : KT β) (n : Nat) (x1_0 : Int) (m0_0 : (L_u8 × Int)) (m5900_0 : L_u8) : Option β := loopG (F95_E k) Tryz.f95 [1, 1, 0, 0] 0 (kontAt (F95_E k) [1, 1, 0, 0] (bodyOf Tryz.f95) 0 (F95_z k v w K)) n (F95_s0 v w x1_0 m0_0 m5900_0)
def F95_l0_T {β : Type} (NX : Int → (L_u8 × Int) → L_u8 → Option β) (RET : (L_u8 × (L_u8 × Int)) → Option β) (k : Nat) (v : (L_u8 × Int)) (w : Int) (x1_0 : Int) (m0_0 : (L_u8 × Int)) (m5900_0 : L_u8) : Option β := cond (decide (x1_0 > 0)) ((F82 k m0_0 3).bind fun b1 => cond (b1.1 == 0) ((F82 k b1.2 256).bind fun b2 => szc (m5900_0.length) ([u8.wrap b2.1].length) 1 (NX (i64.wrap (x1_0 - 1)) b2.2 (m5900_0 ++ [u8.wrap b2.1]))) ((F82 k b1.2 3).bind fun b3 => szc (m5900_0.length) ([u8.wrap (i64.wrap (b3.1 + 97))].length) 1 (NX (i64.wrap (x1_0 - 1)) b3.2 (m5900_0 ++ [u8.wrap (i64.wrap (b3.1 + 97))])))) (RET (m5900_0, m0_0))
def F95_l0 (k : Nat) (v : (L_u8 × Int)) (w : Int) : Nat → Int → (L_u8 × Int) → L_u8 → Option (L_u8 × (L_u8 × Int))
 | 0, _, _, _ => none
 | n + 1, x1_0, m0_0, m5900_0 => F95_l0_T (F95_l0 k v w n) some k v w x1_0 m0_0 m5900_0
theorem F95_l0_lp {β : Type} (k : Nat) (v : (L_u8 × Int)) (w : Int) (K : KT β) (n : Nat) : ∀ (x1_0 : Int) (m0_0 : (L_u8 × Int)) (m5900_0 : L_u8), F95_l0_g k v w K n x1_0 m0_0 m5900_0 =
  (F95_l0 k v w n x1_0 m0_0 m5900_0).bind fun r => K (F95_O.put r) := by
 induction n with
 | zero => intros; rfl
 | succ n ih =>
  intro x1_0 m0_0 m5900_0
  refine Eq.trans (b := F95_l0_T (F95_l0_g k v w K n) (fun r => K (F95_O.put r)) k v w x1_0 m0_0 m5900_0) (by kernel_rfl) ?_
  rw [F95_l0]
  simp only [F95_l0_T, z1, z2, z3, z4, z5, u_0, ih]
def F95_T {β : Type} (LP0 : Int → (L_u8 × Int) → L_u8 → Option β) (k : Nat) (v : (L_u8 × Int)) (w : Int) : Option β := LP0 w v []
def F95 (k : Nat) (v : (L_u8 × Int)) (w : Int) : Option (L_u8 × (L_u8 × Int)) := F95_T (F95_l0 k v w k) k v w
theorem F95_ev {β : Type} (k : Nat) (v : (L_u8 × Int)) (w : Int) (K : KT β) : evalF (F95_E k) Tryz.f95 (PsT.put F95_A (v, w, ())) K = (F95 k v w).bind fun r => K (F95_O.put r) :=
 Eq.trans (b := F95_T (F95_l0_g k v w K k) k v w) (by kernel_rfl) (by simp only [F95, F95_T, z1, z2, z3, z4, z5, u_0, F95_l0_lp])
def F95_d (k : Nat) : FD := ⟨95, F95_A, F95_O, F95 k⟩
theorem F95_q (k : Nat) : (F95_d k).Ok Tryz.prog := ⟨fun x => con_of (envOk (tabsOk (.c (F82_q k) .n)) _ _ _ _) mixed Tryz.func95 rfl rfl (F95_ev k _ _ some), .of (by kernel_rfl)⟩
abbrev F166_E (k : Nat) : Env := env (tabs [F107_d k, F111_d k]) noHint .own [] k
abbrev F166_A : List PA := [.agg (.pair mI m_3), .one (.sl .ro (.int .u8))]
abbrev F166_O : RO := ⟨[.a, .v], [.pair mI m_11, mI]⟩
def F166_T {β : Type} (RET : (den mth) × Int → Option β) (k : Nat) (v : (den mth)) (w : L_u8) : Option β := u_mth v fun _ v1 _ _ _ => (F107 k v).bind fun b1 => cond (!b1) (RET ((0, [], 0, 0, []), 0)) ((F111 k v).bind fun b2 => cond (decide (0 ≤ (if (i64.wrap (32 - (v1.length : Int))) < (w.length : Int) then i64.wrap (32 - (v1.length : Int)) else (w.length : Int))) && decide ((if (i64.wrap (32 - (v1.length : Int))) < (w.length : Int) then i64.wrap (32 - (v1.length : Int)) else (w.length : Int)) ≤ (w.length : Int))) (szc (b2.2.1.length) ((w.take ((if (i64.wrap (32 - (v1.length : Int))) < (w.length : Int) then i64.wrap (32 - (v1.length : Int)) else (w.length : Int)).toNat)).length) 1 (RET ((b2.1, b2.2.1 ++ (w.take ((if (i64.wrap (32 - (v1.length : Int))) < (w.length : Int) then i64.wrap (32 - (v1.length : Int)) else (w.length : Int)).toNat)), b2.2.2), (if (i64.wrap (32 - (v1.length : Int))) < (w.length : Int) then i64.wrap (32 - (v1.length : Int)) else (w.length : Int))))) none)
def F166 := F166_T (β := (den mth) × Int) some
theorem F166_ev {β : Type} (k : Nat) (v : (den mth)) (w : L_u8) (K : KT β) : evalF (F166_E k) Tryz.f166 (PsT.put F166_A (v, w, ())) K = (F166 k v w).bind fun r => K (F166_O.put r) :=
 Eq.trans (b := F166_T (fun r => K (F166_O.put r)) k v w) (by kernel_rfl) (by simp only [F166, F166_T, z1, z2, z3, z4, z5, u_mth])
def F166_d (k : Nat) : FD := ⟨166, F166_A, F166_O, F166 k⟩
theorem F166_q (k : Nat) : (F166_d k).Ok Tryz.prog := ⟨fun x => con_of (envOk (tabsOk (.c (F107_q k) (.c (F111_q k) .n))) _ _ _ _) mixed Tryz.func166 rfl rfl (F166_ev k _ _ some), .of (by kernel_rfl)⟩
abbrev F153_E (k : Nat) : Env := env (tabs [F107_d k, F44_d k, F111_d k]) noHint .own [] k
abbrev F153_A : List PA := [.agg (.pair mI m_3), .one mI]
abbrev F153_O : RO := ⟨[.a, .v, .v], [.pair mI m_11, mI, .sl .own (.int .u8)]⟩
def F153_T {β : Type} (RET : (den mth) × Int × L_u8 → Option β) (k : Nat) (v : (den mth)) (w : Int) : Option β := u_mth v fun v0 v1 v2 v3 _ => (F107 k v).bind fun b1 => cond (!b1) (RET ((0, [], 0, 0, []), 0, [])) ((F44 k w 1 12).bind fun b2 => cond (!b2) (RET ((0, [], 0, 0, []), 0, [])) ((F111 k v).bind fun b3 => cond (decide ((if (i64.wrap (v2 + w)) < (if v3 < (v1.length : Int) then v3 else (v1.length : Int)) then i64.wrap (v2 + w) else (if v3 < (v1.length : Int) then v3 else (v1.length : Int))) ≤ v2)) (RET (b3, i64.wrap (v0 + v2), [])) (cond (decide (0 ≤ (if (i64.wrap (v2 + w)) < (if v3 < (v1.length : Int) then v3 else (v1.length : Int)) then i64.wrap (v2 + w) else (if v3 < (v1.length : Int) then v3 else (v1.length : Int)))) && decide ((if (i64.wrap (v2 + w)) < (if v3 < (v1.length : Int) then v3 else (v1.length : Int)) then i64.wrap (v2 + w) else (if v3 < (v1.length : Int) then v3 else (v1.length : Int))) ≤ (v1.length : Int))) (cond (decide (0 ≤ v2) && decide (v2 ≤ (if (i64.wrap (v2 + w)) < (if v3 < (v1.length : Int) then v3 else (v1.length : Int)) then i64.wrap (v2 + w) else (if v3 < (v1.length : Int) then v3 else (v1.length : Int))))) (szc (([] : L_u8).length) (((v1.take ((if (i64.wrap (v2 + w)) < (if v3 < (v1.length : Int) then v3 else (v1.length : Int)) then i64.wrap (v2 + w) else (if v3 < (v1.length : Int) then v3 else (v1.length : Int))).toNat)).drop v2.toNat).length) 1 (RET ((b3.1, b3.2.1, (if (i64.wrap (v2 + w)) < (if v3 < (v1.length : Int) then v3 else (v1.length : Int)) then i64.wrap (v2 + w) else (if v3 < (v1.length : Int) then v3 else (v1.length : Int))), b3.2.2.2), i64.wrap (v0 + v2), [] ++ ((v1.take ((if (i64.wrap (v2 + w)) < (if v3 < (v1.length : Int) then v3 else (v1.length : Int)) then i64.wrap (v2 + w) else (if v3 < (v1.length : Int) then v3 else (v1.length : Int))).toNat)).drop v2.toNat)))) none) none)))
def F153 := F153_T (β := (den mth) × Int × L_u8) some
theorem F153_ev {β : Type} (k : Nat) (v : (den mth)) (w : Int) (K : KT β) : evalF (F153_E k) Tryz.f153 (PsT.put F153_A (v, w, ())) K = (F153 k v w).bind fun r => K (F153_O.put r) :=
 Eq.trans (b := F153_T (fun r => K (F153_O.put r)) k v w) (by kernel_rfl) (by simp only [F153, F153_T, z1, z2, z3, z4, z5, u_mth])
def F153_d (k : Nat) : FD := ⟨153, F153_A, F153_O, F153 k⟩
theorem F153_q (k : Nat) : (F153_d k).Ok Tryz.prog := ⟨fun x => con_of (envOk (tabsOk (.c (F107_q k) (.c (F44_q k) (.c (F111_q k) .n)))) _ _ _ _) mixed Tryz.func153 rfl rfl (F153_ev k _ _ some), .of (by kernel_rfl)⟩
def F112_h : Nat → Hint
 | 0 => ⟨pl 1 2 ((4, .own .own seg []) :: []), pl 1000 7 ((1007, .ro (.int .u8)) :: (pl 1008 2 ((1010, .ro rng) :: (pl 1011 13 (pl 2000 24 [])))))⟩
 | _ => ⟨[], []⟩
abbrev F112_E (k : Nat) : Env := env (tabs [F153_d k, F51_d k]) F112_h .own [] k
abbrev F112_A : List PA := [.agg (.pair mI (.pair mI m_9))]
abbrev F112_O : RO := ⟨[.a, .v], [.pair mI (.pair mI m_9), .sl .own seg]⟩
noncomputable def F112_z {β : Type} (k : Nat) (v : (den fin)) (K : KT β) : Ex → St → Option β := endC (F112_E k) Tryz.f112 (PsT.put F112_A (v, ())) K
def F112_s0 (v : (den fin)) (m1000_0 : (den fin)) (m4900_0 : L_seg) : St := ⟨(.one .d) :: (.one (.ptr (.cell 1000) 24 0)) :: (.one (.ptr (.cell 2000) 24 0)) :: (.one .d) :: (.one (.a (.cell 4900) 0 0 none)) :: dz 31 [], rowE 1000 (lsM (.pair mI (.pair mI m_9)) m1000_0) (rowE 2000 (lsM m_16 (0, 0, 0, 0, 0, 0, (0, [], 0, 0, []), (0, 0, [], []), false, false, false, 0, 0, 0, 0, 0, 0)) [eM 4900 (.s .own seg m4900_0)])⟩
noncomputable def F112_l0_g {β : Type} (k : Nat) (v : (den fin)) (K : KT β) (n : Nat) (m1000_0 : (den fin)) (m4900_0 : L_seg) : Option β := loopG (F112_E k) Tryz.f112 [1, 1, 0, 0] 0 (kontAt (F112_E k) [1, 1, 0, 0] (bodyOf Tryz.f112) 0 (F112_z k v K)) n (F112_s0 v m1000_0 m4900_0)
def F112_l0_T {β : Type} (NX : (den fin) → L_seg → Option β) (RET : (den fin) × L_seg → Option β) (k : Nat) (v : (den fin)) (m1000_0 : (den fin)) (m4900_0 : L_seg) : Option β := cond (m1000_0.1 == 4) ((F153 k m1000_0.2.2.2.2.2.2.1 12).bind fun b1 => cond ((b1.2.2.length : Int) == 0) (RET (m1000_0, m4900_0)) ((F51 k (m1000_0.1, m1000_0.2.1, m1000_0.2.2.1, m1000_0.2.2.2.1, m1000_0.2.2.2.2.1, m1000_0.2.2.2.2.2.1, b1.1, m1000_0.2.2.2.2.2.2.2) b1.2.1).bind fun b2 => szc (m4900_0.length) ([(b2.1, b2.2.1, b2.2.2.1, b2.2.2.2.1, b2.2.2.2.2.1, b2.2.2.2.2.2.1, b2.2.2.2.2.2.2.1, b2.2.2.2.2.2.2.2.1, b2.2.2.2.2.2.2.2.2.1, b2.2.2.2.2.2.2.2.2.2.1, b1.2.2)].length) 96 (NX (m1000_0.1, m1000_0.2.1, m1000_0.2.2.1, m1000_0.2.2.2.1, m1000_0.2.2.2.2.1, m1000_0.2.2.2.2.2.1, b1.1, m1000_0.2.2.2.2.2.2.2) (m4900_0 ++ [(b2.1, b2.2.1, b2.2.2.1, b2.2.2.2.1, b2.2.2.2.2.1, b2.2.2.2.2.2.1, b2.2.2.2.2.2.2.1, b2.2.2.2.2.2.2.2.1, b2.2.2.2.2.2.2.2.2.1, b2.2.2.2.2.2.2.2.2.2.1, b1.2.2)])))) (RET (m1000_0, m4900_0))
def F112_l0 (k : Nat) (v : (den fin)) : Nat → (den fin) → L_seg → Option ((den fin) × L_seg)
 | 0, _, _ => none
 | n + 1, m1000_0, m4900_0 => F112_l0_T (F112_l0 k v n) some k v m1000_0 m4900_0
theorem F112_l0_lp {β : Type} (k : Nat) (v : (den fin)) (K : KT β) (n : Nat) : ∀ (m1000_0 : (den fin)) (m4900_0 : L_seg), F112_l0_g k v K n m1000_0 m4900_0 =
  (F112_l0 k v n m1000_0 m4900_0).bind fun r => K (F112_O.put r) := by
 induction n with
 | zero => intros; rfl
 | succ n ih =>
  intro m1000_0 m4900_0
  refine Eq.trans (b := F112_l0_T (F112_l0_g k v K n) (fun r => K (F112_O.put r)) k v m1000_0 m4900_0) (by kernel_rfl) ?_
  rw [F112_l0]
  simp only [F112_l0_T, z1, z2, z3, z4, z5, u_fin, ih]
def F112_T {β : Type} (LP0 : (den fin) → L_seg → Option β) (k : Nat) (v : (den fin)) : Option β := LP0 v []
def F112 (k : Nat) (v : (den fin)) : Option ((den fin) × L_seg) := F112_T (F112_l0 k v k) k v
theorem F112_ev {β : Type} (k : Nat) (v : (den fin)) (K : KT β) : evalF (F112_E k) Tryz.f112 (PsT.put F112_A (v, ())) K = (F112 k v).bind fun r => K (F112_O.put r) :=
 Eq.trans (b := F112_T (F112_l0_g k v K k) k v) (by kernel_rfl) (by simp only [F112, F112_T, z1, z2, z3, z4, z5, u_fin, F112_l0_lp])
def F112_d (k : Nat) : FD := ⟨112, F112_A, F112_O, F112 k⟩
theorem F112_q (k : Nat) : (F112_d k).Ok Tryz.prog := ⟨fun x => con_of (envOk (tabsOk (.c (F153_q k) (.c (F51_q k) .n))) _ _ _ _) mixed Tryz.func112 rfl rfl (F112_ev k _ some), .of (by kernel_rfl)⟩
abbrev F137_E (k : Nat) : Env := env (tabs [F42_d k, F44_d k, F45_d k, F166_d k, F112_d k, F48_d k]) noHint .ro [] k
abbrev F137_A : List PA := [.agg (.pair mI (.pair mI m_9)), .one (.sl .ro (.int .u8)), .one mI]
abbrev F137_O : RO := ⟨[.a, .v, .v], [.pair mI (.pair mI m_9), mI, .sl .ro seg]⟩
def F137_T {β : Type} (RET : (den fin) × Int × L_seg → Option β) (k : Nat) (v : (den fin)) (w : L_u8) (p : Int) : Option β := (F42 k v).bind fun b1 => cond (!b1) (RET ((0, 0, 0, 0, 0, 0, (0, [], 0, 0, []), (0, 0, [], []), false, false, false, 0, 0, 0, 0, 0, 0), 0, [])) ((F44 k p 0 900000).bind fun b2 => cond (!b2) (RET ((0, 0, 0, 0, 0, 0, (0, [], 0, 0, []), (0, 0, [], []), false, false, false, 0, 0, 0, 0, 0, 0), 0, [])) ((F45 k v).bind fun b3 => cond (!v.2.2.2.2.2.2.2.2.1) (cond (v.1 != 5) ((F166 k b3.2.2.2.2.2.2.1 w).bind fun b4 => cond (v.1 != 4) (RET ((b3.1, b3.2.1, b3.2.2.1, b3.2.2.2.1, b3.2.2.2.2.1, b3.2.2.2.2.2.1, b4.1, b3.2.2.2.2.2.2.2), b4.2, [])) ((F112 k (b3.1, b3.2.1, b3.2.2.1, b3.2.2.2.1, b3.2.2.2.2.1, b3.2.2.2.2.2.1, b4.1, b3.2.2.2.2.2.2.2)).bind fun b5 => (F48 k b5.1 p false).bind fun b6 => RET (b6, b4.2, b5.2))) (cond (v.1 != 4) (RET (b3, 0, [])) ((F112 k b3).bind fun b7 => (F48 k b7.1 p false).bind fun b8 => RET (b8, 0, b7.2)))) (cond (v.1 != 4) (RET (b3, 0, [])) ((F112 k b3).bind fun b9 => (F48 k b9.1 p false).bind fun b10 => RET (b10, 0, b9.2)))))
def F137 := F137_T (β := (den fin) × Int × L_seg) some
theorem F137_ev {β : Type} (k : Nat) (v : (den fin)) (w : L_u8) (p : Int) (K : KT β) : evalF (F137_E k) Tryz.f137 (PsT.put F137_A (v, w, p, ())) K = (F137 k v w p).bind fun r => K (F137_O.put r) :=
 Eq.trans (b := F137_T (fun r => K (F137_O.put r)) k v w p) (by kernel_rfl) (by simp only [F137, F137_T, z1, z2, z3, z4, z5, u_fin])
def F137_d (k : Nat) : FD := ⟨137, F137_A, F137_O, F137 k⟩
theorem F137_q (k : Nat) : (F137_d k).Ok Tryz.prog := ⟨fun x => con_of (envOk (tabsOk (.c (F42_q k) (.c (F44_q k) (.c (F45_q k) (.c (F166_q k) (.c (F112_q k) (.c (F48_q k) .n))))))) _ _ _ _) mixed Tryz.func137 rfl rfl (F137_ev k _ _ _ some), .of (by kernel_rfl)⟩
abbrev F167_E (k : Nat) : Env := env (tabs [F108_d k]) noHint .own [] k
abbrev F167_A : List PA := [.agg (.pair mI (.pair mI m_4)), .one mI]
abbrev F167_O : RO := ⟨[.a, .v], [.pair mI (.pair mI m_12), .sl .own (.int .u8)]⟩
def F167_T {β : Type} (RET : (den ear) × L_u8 → Option β) (k : Nat) (v : (den ear)) (w : Int) : Option β := u_ear v fun v0 v1 v2 v3 => (F108 k v).bind fun b1 => cond (!b1) (RET ((0, 0, [], []), [])) (cond (decide (w < 0)) (RET ((0, 0, [], []), [])) (cond (decide (0 ≤ (if (v2.length : Int) < w then (v2.length : Int) else w)) && decide ((if (v2.length : Int) < w then (v2.length : Int) else w) ≤ (v2.length : Int))) (szc (([] : L_u8).length) ((v2.drop ((if (v2.length : Int) < w then (v2.length : Int) else w).toNat)).length) 1 (szc (([] : L_erl).length) (v3.length) 16 (cond (decide (0 ≤ (if (v2.length : Int) < w then (v2.length : Int) else w)) && decide ((if (v2.length : Int) < w then (v2.length : Int) else w) ≤ (v2.length : Int))) (szc (([] : L_u8).length) ((v2.take ((if (v2.length : Int) < w then (v2.length : Int) else w).toNat)).length) 1 (RET ((v0, v1, [] ++ (v2.drop ((if (v2.length : Int) < w then (v2.length : Int) else w).toNat)), [] ++ v3), [] ++ (v2.take ((if (v2.length : Int) < w then (v2.length : Int) else w).toNat))))) none))) none))
def F167 := F167_T (β := (den ear) × L_u8) some
theorem F167_ev {β : Type} (k : Nat) (v : (den ear)) (w : Int) (K : KT β) : evalF (F167_E k) Tryz.f167 (PsT.put F167_A (v, w, ())) K = (F167 k v w).bind fun r => K (F167_O.put r) :=
 Eq.trans (b := F167_T (fun r => K (F167_O.put r)) k v w) (by kernel_rfl) (by simp only [F167, F167_T, z1, z2, z3, z4, z5, u_ear])
def F167_d (k : Nat) : FD := ⟨167, F167_A, F167_O, F167 k⟩
theorem F167_q (k : Nat) : (F167_d k).Ok Tryz.prog := ⟨fun x => con_of (envOk (tabsOk (.c (F108_q k) .n)) _ _ _ _) mixed Tryz.func167 rfl rfl (F167_ev k _ _ some), .of (by kernel_rfl)⟩
abbrev F52_E (k : Nat) : Env := env noTab noHint .own [] k
abbrev F52_A : List PA := [.agg (.pair mI (.pair mI m_9))]
abbrev F52_O : RO := ⟨[.v], [mI]⟩
def F52 (k : Nat) (v : (den fin)) : Option (Int) := cond v.2.2.2.2.2.2.2.2.2.1 (some 1) (some 0)
theorem F52_ev {β : Type} (k : Nat) (v : (den fin)) (K : KT β) : evalF (F52_E k) Tryz.f52 (PsT.put F52_A (v, ())) K = (F52 k v).bind fun r => K (F52_O.put r) :=
 Eq.trans (b := cond v.2.2.2.2.2.2.2.2.2.1 (K (F52_O.put 1)) (K (F52_O.put 0))) (by kernel_rfl) (by simp only [F52, z1, z2, z3, z4, z5, u_fin])
def F52_d (k : Nat) : FD := ⟨52, F52_A, F52_O, F52 k⟩
theorem F52_q (k : Nat) : (F52_d k).Ok Tryz.prog := ⟨fun x => con_of (envOk .none _ _ _ _) mixed Tryz.func52 rfl rfl (F52_ev k _ some), .of (by kernel_rfl)⟩
abbrev F138_E (k : Nat) : Env := env (tabs [F42_d k, F44_d k, F45_d k, F167_d k, F114_d k, F52_d k, F51_d k]) noHint .own [] k
abbrev F138_A : List PA := [.agg (.pair mI (.pair mI m_9)), .one mI, .one mI]
abbrev F138_O : RO := ⟨[.a, .v, .v], [m_16, .sl .own (.int .u8), .sl .own seg]⟩
def F138_T {β : Type} (RET : (den fin) × L_u8 × L_seg → Option β) (k : Nat) (v : (den fin)) (w p : Int) : Option β := (F42 k v).bind fun b1 => cond (!b1) (RET ((0, 0, 0, 0, 0, 0, (0, [], 0, 0, []), (0, 0, [], []), false, false, false, 0, 0, 0, 0, 0, 0), [], [])) (cond (decide (w < 0)) (RET ((0, 0, 0, 0, 0, 0, (0, [], 0, 0, []), (0, 0, [], []), false, false, false, 0, 0, 0, 0, 0, 0), [], [])) ((F44 k p 0 900000).bind fun b2 => cond (!b2) (RET ((0, 0, 0, 0, 0, 0, (0, [], 0, 0, []), (0, 0, [], []), false, false, false, 0, 0, 0, 0, 0, 0), [], [])) ((F45 k v).bind fun b3 => (F167 k b3.2.2.2.2.2.2.2.1 w).bind fun b4 => cond (v.1 == 4) ((F114 k v.2.2.2.2.2.2.2.1).bind fun b5 => cond (b5 == 0) ((F114 k b4.1).bind fun b6 => cond (decide (b6 > 0)) ((F52 k (b3.1, b3.2.1, b3.2.2.1, b3.2.2.2.1, b3.2.2.2.2.1, b3.2.2.2.2.2.1, b3.2.2.2.2.2.2.1, b4.1, b3.2.2.2.2.2.2.2.2)).bind fun b7 => (F51 k (b3.1, b3.2.1, b3.2.2.1, b3.2.2.2.1, b3.2.2.2.2.1, b3.2.2.2.2.2.1, b3.2.2.2.2.2.2.1, b4.1, b3.2.2.2.2.2.2.2.2) (i64.wrap ((i64.wrap (b3.2.2.2.2.2.2.1.1 + b3.2.2.2.2.2.2.1.2.2.1)) + b7))).bind fun b8 => RET ((b3.1, b3.2.1, b3.2.2.1, b3.2.2.2.1, b3.2.2.2.2.1, b3.2.2.2.2.2.1, b3.2.2.2.2.2.2.1, b4.1, b3.2.2.2.2.2.2.2.2), b4.2, [b8])) (RET ((b3.1, b3.2.1, b3.2.2.1, b3.2.2.2.1, b3.2.2.2.2.1, b3.2.2.2.2.2.1, b3.2.2.2.2.2.2.1, b4.1, b3.2.2.2.2.2.2.2.2), b4.2, []))) (RET ((b3.1, b3.2.1, b3.2.2.1, b3.2.2.2.1, b3.2.2.2.2.1, b3.2.2.2.2.2.1, b3.2.2.2.2.2.2.1, b4.1, b3.2.2.2.2.2.2.2.2), b4.2, []))) (RET ((b3.1, b3.2.1, b3.2.2.1, b3.2.2.2.1, b3.2.2.2.2.1, b3.2.2.2.2.2.1, b3.2.2.2.2.2.2.1, b4.1, b3.2.2.2.2.2.2.2.2), b4.2, [])))))
def F138 := F138_T (β := (den fin) × L_u8 × L_seg) some
theorem F138_ev {β : Type} (k : Nat) (v : (den fin)) (w p : Int) (K : KT β) : evalF (F138_E k) Tryz.f138 (PsT.put F138_A (v, w, p, ())) K = (F138 k v w p).bind fun r => K (F138_O.put r) :=
 Eq.trans (b := F138_T (fun r => K (F138_O.put r)) k v w p) (by kernel_rfl) (by simp only [F138, F138_T, z1, z2, z3, z4, z5, u_fin])
def F138_d (k : Nat) : FD := ⟨138, F138_A, F138_O, F138 k⟩
theorem F138_q (k : Nat) : (F138_d k).Ok Tryz.prog := ⟨fun x => con_of (envOk (tabsOk (.c (F42_q k) (.c (F44_q k) (.c (F45_q k) (.c (F167_q k) (.c (F114_q k) (.c (F52_q k) (.c (F51_q k) .n)))))))) _ _ _ _) mixed Tryz.func138 rfl rfl (F138_ev k _ _ _ some), .of (by kernel_rfl)⟩
abbrev F168_E (k : Nat) : Env := env (tabs [F109_d k]) noHint .own [] k
abbrev F168_A : List PA := [.agg (.pair mI (.pair mI mI))]
abbrev F168_O : RO := ⟨[.a], [.pair mI (.pair mI mI)]⟩
def F168_T {β : Type} (RET : (den clk) → Option β) (k : Nat) (v : (den clk)) : Option β := u_clk v fun v0 v1 v2 => (F109 k v).bind fun b1 => cond (!b1) (RET (0, 0, 0)) (RET (v0, v1, (if 200 < (i64.wrap (2 * v2)) then 200 else i64.wrap (2 * v2))))
def F168 := F168_T (β := (den clk)) some
theorem F168_ev {β : Type} (k : Nat) (v : (den clk)) (K : KT β) : evalF (F168_E k) Tryz.f168 (PsT.put F168_A (v, ())) K = (F168 k v).bind fun r => K (F168_O.put r) :=
 Eq.trans (b := F168_T (fun r => K (F168_O.put r)) k v) (by kernel_rfl) (by simp only [F168, F168_T, z1, z2, z3, z4, z5, u_clk])
def F168_d (k : Nat) : FD := ⟨168, F168_A, F168_O, F168 k⟩
theorem F168_q (k : Nat) : (F168_d k).Ok Tryz.prog := ⟨fun x => con_of (envOk (tabsOk (.c (F109_q k) .n)) _ _ _ _) mixed Tryz.func168 rfl rfl (F168_ev k _ some), .of (by kernel_rfl)⟩
abbrev F169_E (k : Nat) : Env := env (tabs [F107_d k, F44_d k]) noHint .own [] k
abbrev F169_A : List PA := [.agg (.pair mI m_3), .one mI]
abbrev F169_O : RO := ⟨[.v, .v], [mI, .sl .own (.int .u8)]⟩
def F169_T {β : Type} (RET : (Int × L_u8) → Option β) (k : Nat) (v : (den mth)) (w : Int) : Option β := u_mth v fun v0 v1 v2 _ v4 => (F107 k v).bind fun b1 => cond (!b1) (RET (0, [])) ((F44 k w 1 12).bind fun b2 => cond (!b2) (RET (0, [])) (cond (decide ((v4.length : Int) > 0)) (cond (decide (0 < (v4.length : Int))) (cond (decide (0 ≤ (if (i64.wrap ((atI v4 0).1 - v0)) < (if w < v2 then w else v2) then i64.wrap ((atI v4 0).1 - v0) else (if w < v2 then w else v2))) && decide ((if (i64.wrap ((atI v4 0).1 - v0)) < (if w < v2 then w else v2) then i64.wrap ((atI v4 0).1 - v0) else (if w < v2 then w else v2)) ≤ (v1.length : Int))) (szc (([] : L_u8).length) ((v1.take ((if (i64.wrap ((atI v4 0).1 - v0)) < (if w < v2 then w else v2) then i64.wrap ((atI v4 0).1 - v0) else (if w < v2 then w else v2)).toNat)).length) 1 (RET (v0, [] ++ (v1.take ((if (i64.wrap ((atI v4 0).1 - v0)) < (if w < v2 then w else v2) then i64.wrap ((atI v4 0).1 - v0) else (if w < v2 then w else v2)).toNat))))) none) none) (cond (decide (0 ≤ (if w < v2 then w else v2)) && decide ((if w < v2 then w else v2) ≤ (v1.length : Int))) (szc (([] : L_u8).length) ((v1.take ((if w < v2 then w else v2).toNat)).length) 1 (RET (v0, [] ++ (v1.take ((if w < v2 then w else v2).toNat))))) none)))
def F169 := F169_T (β := Int × L_u8) some
theorem F169_ev {β : Type} (k : Nat) (v : (den mth)) (w : Int) (K : KT β) : evalF (F169_E k) Tryz.f169 (PsT.put F169_A (v, w, ())) K = (F169 k v w).bind fun r => K (F169_O.put r) :=
 Eq.trans (b := F169_T (fun r => K (F169_O.put r)) k v w) (by kernel_rfl) (by simp only [F169, F169_T, z1, z2, z3, z4, z5, u_mth])
def F169_d (k : Nat) : FD := ⟨169, F169_A, F169_O, F169 k⟩
theorem F169_q (k : Nat) : (F169_d k).Ok Tryz.prog := ⟨fun x => con_of (envOk (tabsOk (.c (F107_q k) (.c (F44_q k) .n))) _ _ _ _) mixed Tryz.func169 rfl rfl (F169_ev k _ _ some), .of (by kernel_rfl)⟩
abbrev F113_E (k : Nat) : Env := env (tabs [F51_d k]) noHint .own [] k
abbrev F113_A : List PA := [.agg (.pair mI (.pair mI m_9))]
abbrev F113_O : RO := ⟨[.a], [m_20]⟩
def F113_T {β : Type} (RET : (den seg) → Option β) (k : Nat) (v : (den fin)) : Option β := (F51 k v (i64.wrap (v.2.2.2.2.2.2.1.1 + (v.2.2.2.2.2.2.1.2.1.length : Int)))).bind fun b1 => RET (b1.1, b1.2.1, b1.2.2.1, b1.2.2.2.1, b1.2.2.2.2.1, b1.2.2.2.2.2.1, b1.2.2.2.2.2.2.1, true, b1.2.2.2.2.2.2.2.2)
def F113 := F113_T (β := (den seg)) some
theorem F113_ev {β : Type} (k : Nat) (v : (den fin)) (K : KT β) : evalF (F113_E k) Tryz.f113 (PsT.put F113_A (v, ())) K = (F113 k v).bind fun r => K (F113_O.put r) :=
 Eq.trans (b := F113_T (fun r => K (F113_O.put r)) k v) (by kernel_rfl) (by simp only [F113, F113_T, z1, z2, z3, z4, z5, u_fin])
def F113_d (k : Nat) : FD := ⟨113, F113_A, F113_O, F113 k⟩
theorem F113_q (k : Nat) : (F113_d k).Ok Tryz.prog := ⟨fun x => con_of (envOk (tabsOk (.c (F51_q k) .n)) _ _ _ _) mixed Tryz.func113 rfl rfl (F113_ev k _ some), .of (by kernel_rfl)⟩
end
end Go.Proofs.YtjkkbmkkljpcjaaGreat.Gn
end

section
set_option linter.unusedVariables false
set_option linter.unusedSimpArgs false
namespace Go.Proofs.YtjkkbmkkljpcjaaGreat.Gn
open Go.Rf IntKind
noncomputable section
abbrev F139_E (k : Nat) : Env := env (tabs [F42_d k, F44_d k, F45_d k, F168_d k, F49_d k, F169_d k, F51_d k, F113_d k]) noHint .own [] k
abbrev F139_A : List PA := [.agg (.pair mI (.pair mI m_9)), .one mI]
abbrev F139_O : RO := ⟨[.a, .v], [m_16, .sl .own seg]⟩
def F139_j1 {β : Type} (k : Nat) (v : (den fin)) (w : Int) (RET : (den fin) × L_seg → Option β) (b3 : (den fin)) (b4 : (den clk)) : Option β := (F49 k (b3.1, b3.2.1, b3.2.2.1, b3.2.2.2.1, b3.2.2.2.2.1, b3.2.2.2.2.2.1, b3.2.2.2.2.2.2.1, b3.2.2.2.2.2.2.2.1, b3.2.2.2.2.2.2.2.2.1, b3.2.2.2.2.2.2.2.2.2.1, b3.2.2.2.2.2.2.2.2.2.2.1, b3.2.2.2.2.2.2.2.2.2.2.2.1, i64.wrap (w + b4.2.2), i64.wrap (v.2.2.2.2.2.2.2.2.2.2.2.2.2.1 + 1), b4)).bind fun b5 => RET ((b3.1, b3.2.1, b3.2.2.1, b3.2.2.2.1, b3.2.2.2.2.1, b3.2.2.2.2.2.1, b3.2.2.2.2.2.2.1, b3.2.2.2.2.2.2.2.1, b3.2.2.2.2.2.2.2.2.1, b3.2.2.2.2.2.2.2.2.2.1, b3.2.2.2.2.2.2.2.2.2.2.1, b3.2.2.2.2.2.2.2.2.2.2.2.1, i64.wrap (w + b4.2.2), i64.wrap (v.2.2.2.2.2.2.2.2.2.2.2.2.2.1 + 1), b4), [b5])
def F139_j2 {β : Type} (k : Nat) (v : (den fin)) (w : Int) (RET : (den fin) × L_seg → Option β) (b3 : (den fin)) (b4 : (den clk)) : Option β := (F51 k (b3.1, b3.2.1, b3.2.2.1, b3.2.2.2.1, b3.2.2.2.2.1, b3.2.2.2.2.2.1, b3.2.2.2.2.2.2.1, b3.2.2.2.2.2.2.2.1, b3.2.2.2.2.2.2.2.2.1, b3.2.2.2.2.2.2.2.2.2.1, b3.2.2.2.2.2.2.2.2.2.2.1, b3.2.2.2.2.2.2.2.2.2.2.2.1, i64.wrap (w + b4.2.2), i64.wrap (v.2.2.2.2.2.2.2.2.2.2.2.2.2.1 + 1), b4) (i64.wrap (b3.2.2.2.2.2.2.1.1 - 1))).bind fun b10 => RET ((b3.1, b3.2.1, b3.2.2.1, b3.2.2.2.1, b3.2.2.2.2.1, b3.2.2.2.2.2.1, b3.2.2.2.2.2.2.1, b3.2.2.2.2.2.2.2.1, b3.2.2.2.2.2.2.2.2.1, b3.2.2.2.2.2.2.2.2.2.1, b3.2.2.2.2.2.2.2.2.2.2.1, b3.2.2.2.2.2.2.2.2.2.2.2.1, i64.wrap (w + b4.2.2), i64.wrap (v.2.2.2.2.2.2.2.2.2.2.2.2.2.1 + 1), b4), [b10])
def F139_T {β : Type} (RET : (den fin) × L_seg → Option β) (k : Nat) (v : (den fin)) (w : Int) : Option β := u_fin v fun v0 _ _ _ _ _ _ _ v8 _ _ _ _ _ _ _ v16 v17 _ v19 v20 v21 v22 v23 => (F42 k v).bind fun b1 => cond (!b1) (RET ((0, 0, 0, 0, 0, 0, (0, [], 0, 0, []), (0, 0, [], []), false, false, false, 0, 0, 0, 0, 0, 0), [])) ((F44 k w 0 900000).bind fun b2 => cond (!b2) (RET ((0, 0, 0, 0, 0, 0, (0, [], 0, 0, []), (0, 0, [], []), false, false, false, 0, 0, 0, 0, 0, 0), [])) ((F45 k v).bind fun b3 => cond (v19 == 0) (RET (b3, [])) (cond (decide (v19 > w)) (RET (b3, [])) (cond (v20 == 8) (RET ((5, b3.2.1, b3.2.2.1, b3.2.2.2.1, b3.2.2.2.2.1, b3.2.2.2.2.2.1, b3.2.2.2.2.2.2.1, b3.2.2.2.2.2.2.2.1, b3.2.2.2.2.2.2.2.2.1, b3.2.2.2.2.2.2.2.2.2.1, b3.2.2.2.2.2.2.2.2.2.2.1, b3.2.2.2.2.2.2.2.2.2.2.2.1, 0, b3.2.2.2.2.2.2.2.2.2.2.2.2.2), [])) ((F168 k (v21, v22, v23)).bind fun b4 => cond (v0 == 2) (F139_j1 k v w RET b3 b4) (cond (v0 == 3) (F139_j1 k v w RET b3 b4) (cond (v0 != 4) (RET ((b3.1, b3.2.1, b3.2.2.1, b3.2.2.2.1, b3.2.2.2.2.1, b3.2.2.2.2.2.1, b3.2.2.2.2.2.2.1, b3.2.2.2.2.2.2.2.1, b3.2.2.2.2.2.2.2.2.1, b3.2.2.2.2.2.2.2.2.2.1, b3.2.2.2.2.2.2.2.2.2.2.1, b3.2.2.2.2.2.2.2.2.2.2.2.1, 0, i64.wrap (v20 + 1), b4), [])) (cond (decide (v8 > 0)) ((F169 k b3.2.2.2.2.2.2.1 12).bind fun b7 => (F51 k (b3.1, b3.2.1, b3.2.2.1, b3.2.2.2.1, b3.2.2.2.2.1, b3.2.2.2.2.2.1, b3.2.2.2.2.2.2.1, b3.2.2.2.2.2.2.2.1, b3.2.2.2.2.2.2.2.2.1, b3.2.2.2.2.2.2.2.2.2.1, b3.2.2.2.2.2.2.2.2.2.2.1, b3.2.2.2.2.2.2.2.2.2.2.2.1, i64.wrap (w + b4.2.2), i64.wrap (v20 + 1), b4) b7.1).bind fun b8 => RET ((b3.1, b3.2.1, b3.2.2.1, b3.2.2.2.1, b3.2.2.2.2.1, b3.2.2.2.2.2.1, b3.2.2.2.2.2.2.1, b3.2.2.2.2.2.2.2.1, b3.2.2.2.2.2.2.2.2.1, b3.2.2.2.2.2.2.2.2.2.1, b3.2.2.2.2.2.2.2.2.2.2.1, b3.2.2.2.2.2.2.2.2.2.2.2.1, i64.wrap (w + b4.2.2), i64.wrap (v20 + 1), b4), [(b8.1, b8.2.1, b8.2.2.1, b8.2.2.2.1, b8.2.2.2.2.1, b8.2.2.2.2.2.1, b8.2.2.2.2.2.2.1, b8.2.2.2.2.2.2.2.1, b8.2.2.2.2.2.2.2.2.1, b8.2.2.2.2.2.2.2.2.2.1, b7.2)])) (cond v16 (cond (!v17) ((F113 k (b3.1, b3.2.1, b3.2.2.1, b3.2.2.2.1, b3.2.2.2.2.1, b3.2.2.2.2.2.1, b3.2.2.2.2.2.2.1, b3.2.2.2.2.2.2.2.1, b3.2.2.2.2.2.2.2.2.1, b3.2.2.2.2.2.2.2.2.2.1, b3.2.2.2.2.2.2.2.2.2.2.1, b3.2.2.2.2.2.2.2.2.2.2.2.1, i64.wrap (w + b4.2.2), i64.wrap (v20 + 1), b4)).bind fun b9 => RET ((b3.1, b3.2.1, b3.2.2.1, b3.2.2.2.1, b3.2.2.2.2.1, b3.2.2.2.2.2.1, b3.2.2.2.2.2.2.1, b3.2.2.2.2.2.2.2.1, b3.2.2.2.2.2.2.2.2.1, b3.2.2.2.2.2.2.2.2.2.1, b3.2.2.2.2.2.2.2.2.2.2.1, b3.2.2.2.2.2.2.2.2.2.2.2.1, i64.wrap (w + b4.2.2), i64.wrap (v20 + 1), b4), [b9])) (F139_j2 k v w RET b3 b4)) (F139_j2 k v w RET b3 b4))))))))))
def F139 := F139_T (β := (den fin) × L_seg) some
theorem F139_ev {β : Type} (k : Nat) (v : (den fin)) (w : Int) (K : KT β) : evalF (F139_E k) Tryz.f139 (PsT.put F139_A (v, w, ())) K = (F139 k v w).bind fun r => K (F139_O.put r) :=
 Eq.trans (b := F139_T (fun r => K (F139_O.put r)) k v w) (by kernel_rfl) (by simp only [F139, F139_T, F139_j1, F139_j2, z1, z2, z3, z4, z5, u_fin])
def F139_d (k : Nat) : FD := ⟨139, F139_A, F139_O, F139 k⟩
theorem F139_q (k : Nat) : (F139_d k).Ok Tryz.prog := ⟨fun x => con_of (envOk (tabsOk (.c (F42_q k) (.c (F44_q k) (.c (F45_q k) (.c (F168_q k) (.c (F49_q k) (.c (F169_q k) (.c (F51_q k) (.c (F113_q k) .n))))))))) _ _ _ _) mixed Tryz.func139 rfl rfl (F139_ev k _ _ some), .of (by kernel_rfl)⟩
abbrev F140_E (k : Nat) : Env := env (tabs [F42_d k, F44_d k, F45_d k, F113_d k, F48_d k]) noHint .ro [] k
abbrev F140_A : List PA := [.agg (.pair mI (.pair mI m_9)), .one mI]
abbrev F140_O : RO := ⟨[.a, .v], [.pair mI (.pair mI m_9), .sl .ro seg]⟩
def F140_j1 {β : Type} (k : Nat) (v : (den fin)) (w : Int) (RET : (den fin) × L_seg → Option β) (b3 : (den fin)) : Option β := (F48 k (b3.1, b3.2.1, b3.2.2.1, b3.2.2.2.1, b3.2.2.2.2.1, b3.2.2.2.2.2.1, b3.2.2.2.2.2.2.1, b3.2.2.2.2.2.2.2.1, true, b3.2.2.2.2.2.2.2.2.2) w false).bind fun b6 => RET (b6, [])
def F140_T {β : Type} (RET : (den fin) × L_seg → Option β) (k : Nat) (v : (den fin)) (w : Int) : Option β := (F42 k v).bind fun b1 => cond (!b1) (RET ((0, 0, 0, 0, 0, 0, (0, [], 0, 0, []), (0, 0, [], []), false, false, false, 0, 0, 0, 0, 0, 0), [])) ((F44 k w 0 900000).bind fun b2 => cond (!b2) (RET ((0, 0, 0, 0, 0, 0, (0, [], 0, 0, []), (0, 0, [], []), false, false, false, 0, 0, 0, 0, 0, 0), [])) ((F45 k v).bind fun b3 => cond (b3.1 == 4) (cond (!b3.2.2.2.2.2.2.2.2.2.1) (cond (b3.2.2.2.2.2.2.1.2.2.1 == (b3.2.2.2.2.2.2.1.2.1.length : Int)) ((F113 k (b3.1, b3.2.1, b3.2.2.1, b3.2.2.2.1, b3.2.2.2.2.1, b3.2.2.2.2.2.1, b3.2.2.2.2.2.2.1, b3.2.2.2.2.2.2.2.1, true, true, b3.2.2.2.2.2.2.2.2.2.2)).bind fun b4 => szc (([] : L_seg).length) ([b4].length) 96 ((F48 k (b3.1, b3.2.1, b3.2.2.1, b3.2.2.2.1, b3.2.2.2.2.1, b3.2.2.2.2.2.1, b3.2.2.2.2.2.2.1, b3.2.2.2.2.2.2.2.1, true, true, b3.2.2.2.2.2.2.2.2.2.2) w false).bind fun b5 => RET (b5, [] ++ [b4]))) (F140_j1 k v w RET b3)) (F140_j1 k v w RET b3)) (F140_j1 k v w RET b3)))
def F140 := F140_T (β := (den fin) × L_seg) some
theorem F140_ev {β : Type} (k : Nat) (v : (den fin)) (w : Int) (K : KT β) : evalF (F140_E k) Tryz.f140 (PsT.put F140_A (v, w, ())) K = (F140 k v w).bind fun r => K (F140_O.put r) :=
 Eq.trans (b := F140_T (fun r => K (F140_O.put r)) k v w) (by kernel_rfl) (by simp only [F140, F140_T, F140_j1, z1, z2, z3, z4, z5, u_fin])
def F140_d (k : Nat) : FD := ⟨140, F140_A, F140_O, F140 k⟩
theorem F140_q (k : Nat) : (F140_d k).Ok Tryz.prog := ⟨fun x => con_of (envOk (tabsOk (.c (F42_q k) (.c (F44_q k) (.c (F45_q k) (.c (F113_q k) (.c (F48_q k) .n)))))) _ _ _ _) mixed Tryz.func140 rfl rfl (F140_ev k _ _ some), .of (by kernel_rfl)⟩
def F43_h : Nat → Hint
 | 0 => ⟨pl 1 1 (pl 3 1 []), pl 1000 11 []⟩
 | _ => ⟨[], []⟩
abbrev F43_E (k : Nat) : Env := env (tabs [F44_d k]) F43_h .own [] k
abbrev F43_A : List PA := [.agg m_24]
abbrev F43_O : RO := ⟨[.v], [mB]⟩
noncomputable def F43_z {β : Type} (k : Nat) (v : (den seg)) (K : KT β) : Ex → St → Option β := endC (F43_E k) Tryz.f43 (PsT.put F43_A (v, ())) K
def F43_s0 (v : (den seg)) (x3_0 : Int) : St := ⟨(.one .d) :: (.one (.ptr (.cell 1000) 11 0)) :: (.one .d) :: (.one (vI x3_0)) :: dz 103 [], rowE 1000 (lsM m_24 v) []⟩
noncomputable def F43_l0_g {β : Type} (k : Nat) (v : (den seg)) (K : KT β) (n : Nat) (x3_0 : Int) : Option β := loopG (F43_E k) Tryz.f43 [1, 1, 0, 1, 0] 0 (kontAt (F43_E k) [1, 1, 0, 1, 0] (bodyOf Tryz.f43) 0 (F43_z k v K)) n (F43_s0 v x3_0)
def F43_l0_T {β : Type} (NX : Int → Option β) (RET : Bool → Option β) (k : Nat) (v : (den seg)) (x3_0 : Int) : Option β := u_seg v fun _ _ _ v3 v4 v5 v6 v7 v8 v9 v10 => cond (decide (x3_0 < (v9.length : Int))) (ixc x3_0 v9 ((F44 k (atI v9 x3_0).1 0 65535).bind fun b6 => cond (!b6) (RET false) (ixc x3_0 v9 ((F44 k (atI v9 x3_0).2 0 65535).bind fun b7 => cond (!b7) (RET false) (NX (i64.wrap (x3_0 + 1))))))) (cond (!v6) (cond (v3 != 0) (RET false) (cond (v4 != 0) (RET false) (cond (decide ((v9.length : Int) > 0)) (RET false) (cond (!v8) (RET true) (cond (!v5) (cond (!v7) (RET ((v10.length : Int) == 0)) (RET false)) (RET false)))))) (cond (!v8) (RET true) (cond (!v5) (cond (!v7) (RET ((v10.length : Int) == 0)) (RET false)) (RET false))))
def F43_l0 (k : Nat) (v : (den seg)) : Nat → Int → Option (Bool)
 | 0, _ => none
 | n + 1, x3_0 => F43_l0_T (F43_l0 k v n) some k v x3_0
theorem F43_l0_lp {β : Type} (k : Nat) (v : (den seg)) (K : KT β) (n : Nat) : ∀ (x3_0 : Int), F43_l0_g k v K n x3_0 =
  (F43_l0 k v n x3_0).bind fun r => K (F43_O.put r) := by
 induction n with
 | zero => intros; rfl
 | succ n ih =>
  intro x3_0
  refine Eq.trans (b := F43_l0_T (F43_l0_g k v K n) (fun r => K (F43_O.put r)) k v x3_0) (by kernel_rfl) ?_
  rw [F43_l0]
  simp only [F43_l0_T, z1, z2, z3, z4, z5, u_seg, ih]
def F43_T {β : Type} (LP0 : Int → Option β) (RET : Bool → Option β) (k : Nat) (v : (den seg)) : Option β := (F44 k v.1 1 255).bind fun b1 => cond (!b1) (RET false) ((F44 k v.2.1 1 255).bind fun b2 => cond (!b2) (RET false) ((F44 k v.2.2.1 0 65535).bind fun b3 => cond (!b3) (RET false) ((F44 k v.2.2.2.1 0 65535).bind fun b4 => cond (!b4) (RET false) ((F44 k v.2.2.2.2.1 0 255).bind fun b5 => cond (!b5) (RET false) (cond (decide ((v.2.2.2.2.2.2.2.2.2.1.length : Int) > 2)) (RET false) (cond (decide ((v.2.2.2.2.2.2.2.2.2.2.length : Int) > 12)) (RET false) (LP0 0)))))))
def F43 (k : Nat) (v : (den seg)) : Option (Bool) := F43_T (F43_l0 k v k) some k v
theorem F43_ev {β : Type} (k : Nat) (v : (den seg)) (K : KT β) : evalF (F43_E k) Tryz.f43 (PsT.put F43_A (v, ())) K = (F43 k v).bind fun r => K (F43_O.put r) :=
 Eq.trans (b := F43_T (F43_l0_g k v K k) (fun r => K (F43_O.put r)) k v) (by kernel_rfl) (by simp only [F43, F43_T, z1, z2, z3, z4, z5, u_seg, F43_l0_lp])
def F43_d (k : Nat) : FD := ⟨43, F43_A, F43_O, F43 k⟩
theorem F43_q (k : Nat) : (F43_d k).Ok Tryz.prog := ⟨fun x => con_of (envOk (tabsOk (.c (F44_q k) .n)) _ _ _ _) mixed Tryz.func43 rfl rfl (F43_ev k _ some), .of (by kernel_rfl)⟩
abbrev F50_E (k : Nat) : Env := env (tabs [F112_d k, F113_d k]) noHint .own [] k
abbrev F50_A : List PA := [.agg (.pair mI (.pair mI m_9))]
abbrev F50_O : RO := ⟨[.a, .v], [.pair mI (.pair mI m_9), .sl .own seg]⟩
def F50_T {β : Type} (RET : (den fin) × L_seg → Option β) (k : Nat) (v : (den fin)) : Option β := (F112 k v).bind fun b1 => cond (b1.1.1 == 4) (cond b1.1.2.2.2.2.2.2.2.2.1 (cond (!b1.1.2.2.2.2.2.2.2.2.2.1) (cond (b1.1.2.2.2.2.2.2.1.2.2.1 == (b1.1.2.2.2.2.2.2.1.2.1.length : Int)) ((F113 k (b1.1.1, b1.1.2.1, b1.1.2.2.1, b1.1.2.2.2.1, b1.1.2.2.2.2.1, b1.1.2.2.2.2.2.1, b1.1.2.2.2.2.2.2.1, b1.1.2.2.2.2.2.2.2.1, b1.1.2.2.2.2.2.2.2.2.1, true, b1.1.2.2.2.2.2.2.2.2.2.2)).bind fun b2 => szc (b1.2.length) ([b2].length) 96 (RET ((b1.1.1, b1.1.2.1, b1.1.2.2.1, b1.1.2.2.2.1, b1.1.2.2.2.2.1, b1.1.2.2.2.2.2.1, b1.1.2.2.2.2.2.2.1, b1.1.2.2.2.2.2.2.2.1, b1.1.2.2.2.2.2.2.2.2.1, true, b1.1.2.2.2.2.2.2.2.2.2.2), b1.2 ++ [b2]))) (RET b1)) (RET b1)) (RET b1)) (RET b1)
def F50 := F50_T (β := (den fin) × L_seg) some
theorem F50_ev {β : Type} (k : Nat) (v : (den fin)) (K : KT β) : evalF (F50_E k) Tryz.f50 (PsT.put F50_A (v, ())) K = (F50 k v).bind fun r => K (F50_O.put r) :=
 Eq.trans (b := F50_T (fun r => K (F50_O.put r)) k v) (by kernel_rfl) (by simp only [F50, F50_T, z1, z2, z3, z4, z5, u_fin])
def F50_d (k : Nat) : FD := ⟨50, F50_A, F50_O, F50 k⟩
theorem F50_q (k : Nat) : (F50_d k).Ok Tryz.prog := ⟨fun x => con_of (envOk (tabsOk (.c (F112_q k) (.c (F113_q k) .n))) _ _ _ _) mixed Tryz.func50 rfl rfl (F50_ev k _ some), .of (by kernel_rfl)⟩
abbrev F116_E (k : Nat) : Env := env (tabs [F44_d k, F46_d k]) noHint .own [] k
abbrev F116_A : List PA := [.one mI, .one mI]
abbrev F116_O : RO := ⟨[.v], [mI]⟩
def F116_T {β : Type} (RET : Int → Option β) (k : Nat) (v w : Int) : Option β := (F44 k v 0 1000000).bind fun b1 => cond (!b1) (RET v) ((F44 k w 0 65535).bind fun b2 => cond (!b2) (RET v) ((F46 k v).bind fun b3 => (F46 k (i64.wrap (w - b3))).bind fun b4 => cond (decide (b4 ≥ 32768)) (RET (i64.wrap (v + (i64.wrap (b4 - 65536))))) (RET (i64.wrap (v + b4)))))
def F116 := F116_T (β := Int) some
theorem F116_ev {β : Type} (k : Nat) (v w : Int) (K : KT β) : evalF (F116_E k) Tryz.f116 (PsT.put F116_A (v, w, ())) K = (F116 k v w).bind fun r => K (F116_O.put r) :=
 Eq.trans (b := F116_T (fun r => K (F116_O.put r)) k v w) (by kernel_rfl) (by simp only [F116, F116_T, z1, z2, z3, z4, z5])
def F116_d (k : Nat) : FD := ⟨116, F116_A, F116_O, F116 k⟩
theorem F116_q (k : Nat) : (F116_d k).Ok Tryz.prog := ⟨fun x => con_of (envOk (tabsOk (.c (F44_q k) (.c (F46_q k) .n))) _ _ _ _) mixed Tryz.func116 rfl rfl (F116_ev k _ _ some), .of (by kernel_rfl)⟩
def F117_h : Nat → Hint
 | 0 => ⟨pl 1 1 (pl 3 1 (pl 8 1 (pl 10 3 []))), pl 8000 5 (pl 10000 1 ((10001, .own .own (.int .u8) []) :: (pl 10002 2 ((10004, .own .own rng []) :: (pl 48000 1 (pl 57000 1 []))))))⟩
 | _ => ⟨[], []⟩
abbrev F117_E (k : Nat) : Env := env (tabs [F107_d k, F44_d k, F111_d k]) F117_h .own [] k
abbrev F117_A : List PA := [.agg (.pair mI m_3), .one mI, .one mI, .one (.sl .ro rng)]
abbrev F117_O : RO := ⟨[.a, .v], [.pair mI m_11, mI]⟩
noncomputable def F117_z {β : Type} (k : Nat) (v : (den mth)) (w p : Int) (q : L_rng) (K : KT β) : Ex → St → Option β := endC (F117_E k) Tryz.f117 (PsT.put F117_A (v, w, p, q, ())) K
def F117_s0 (v : (den mth)) (w p : Int) (q : L_rng) (x12_0 : Int) (m10000_0 : (den mth)) : St := ⟨(.one .d) :: (.one (vI w)) :: (.one .d) :: (.one (.s .ro rng q)) :: dz 4 ((.one (.ptr (.cell 8000) 5 0)) :: (.one .d) :: (.one (.ptr (.cell 10000) 5 0)) :: (.one (vI (i64.wrap (w - v.1)))) :: (.one (vI x12_0)) :: dz 112 []), rowE 8000 (lsM (.pair mI m_11) (0, [], 0, 0, [])) (rowE 10000 (lsM (.pair mI m_11) m10000_0) [eM 48000 .d, eM 57000 .d])⟩
noncomputable def F117_l0_g {β : Type} (k : Nat) (v : (den mth)) (w p : Int) (q : L_rng) (K : KT β) (n : Nat) (x12_0 : Int) (m10000_0 : (den mth)) : Option β := loopG (F117_E k) Tryz.f117 [1, 1, 1, 1, 1, 1, 1, 1, 1, 1, 0, 1, 0] 0 (kontAt (F117_E k) [1, 1, 1, 1, 1, 1, 1, 1, 1, 1, 0, 1, 0] (bodyOf Tryz.f117) 0 (F117_z k v w p q K)) n (F117_s0 v w p q x12_0 m10000_0)
def F117_l0_j1 {β : Type} (k : Nat) (v : (den mth)) (w p : Int) (q : L_rng) (NX : Int → (den mth) → Option β) (RET : (den mth) × Int → Option β) (m10000_0 : (den mth)) (x12_0 : Int) : Option β := szc (m10000_0.2.2.2.2.length) ([(atI q x12_0)].length) 16 (NX (i64.wrap (x12_0 + 1)) (m10000_0.1, m10000_0.2.1, m10000_0.2.2.1, m10000_0.2.2.2.1, m10000_0.2.2.2.2 ++ [(atI q x12_0)]))
def F117_l0_T {β : Type} (NX : Int → (den mth) → Option β) (RET : (den mth) × Int → Option β) (k : Nat) (v : (den mth)) (w p : Int) (q : L_rng) (x12_0 : Int) (m10000_0 : (den mth)) : Option β := cond (decide (x12_0 < (q.length : Int))) (ixc x12_0 q (cond (decide ((atI q x12_0).1 > w)) (cond (decide ((atI q x12_0).2 > (atI q x12_0).1)) (cond (decide ((atI q x12_0).2 ≤ (i64.wrap (w + m10000_0.2.2.1)))) (cond (decide ((m10000_0.2.2.2.2.length : Int) < 2)) (cond (decide ((i64.wrap ((m10000_0.2.2.2.2.length : Int) - 1)) < 0)) (F117_l0_j1 k v w p q NX RET m10000_0 x12_0) (ixc (i64.wrap ((m10000_0.2.2.2.2.length : Int) - 1)) m10000_0.2.2.2.2 (cond (decide ((atI q x12_0).1 > (atI m10000_0.2.2.2.2 (i64.wrap ((m10000_0.2.2.2.2.length : Int) - 1))).2)) (F117_l0_j1 k v w p q NX RET m10000_0 x12_0) (NX (i64.wrap (x12_0 + 1)) m10000_0)))) (NX (i64.wrap (x12_0 + 1)) m10000_0)) (NX (i64.wrap (x12_0 + 1)) m10000_0)) (NX (i64.wrap (x12_0 + 1)) m10000_0)) (NX (i64.wrap (x12_0 + 1)) m10000_0))) (cond (decide (w > 1000000)) (RET ((0, [], 0, 0, []), 0)) (RET (m10000_0, i64.wrap (w - v.1))))
def F117_l0 (k : Nat) (v : (den mth)) (w p : Int) (q : L_rng) : Nat → Int → (den mth) → Option ((den mth) × Int)
 | 0, _, _ => none
 | n + 1, x12_0, m10000_0 => F117_l0_T (F117_l0 k v w p q n) some k v w p q x12_0 m10000_0
theorem F117_l0_lp {β : Type} (k : Nat) (v : (den mth)) (w p : Int) (q : L_rng) (K : KT β) (n : Nat) : ∀ (x12_0 : Int) (m10000_0 : (den mth)), F117_l0_g k v w p q K n x12_0 m10000_0 =
  (F117_l0 k v w p q n x12_0 m10000_0).bind fun r => K (F117_O.put r) := by
 induction n with
 | zero => intros; rfl
 | succ n ih =>
  intro x12_0 m10000_0
  refine Eq.trans (b := F117_l0_T (F117_l0_g k v w p q K n) (fun r => K (F117_O.put r)) k v w p q x12_0 m10000_0) (by kernel_rfl) ?_
  rw [F117_l0]
  simp only [F117_l0_T, F117_l0_j1, z1, z2, z3, z4, z5, u_mth, ih]
def F117_T {β : Type} (LP0 : Int → (den mth) → Option β) (RET : (den mth) × Int → Option β) (k : Nat) (v : (den mth)) (w p : Int) (q : L_rng) : Option β := u_mth v fun v0 v1 v2 _ _ => (F107 k v).bind fun b1 => cond (!b1) (RET ((0, [], 0, 0, []), 0)) ((F44 k p 0 255).bind fun b2 => cond (!b2) (RET ((0, [], 0, 0, []), 0)) ((F111 k v).bind fun b3 => cond (decide (w < v0)) (RET (b3, 0)) (cond (decide ((i64.wrap (w - v0)) > v2)) (RET (b3, 0)) (cond (decide (0 ≤ (i64.wrap (w - v0))) && decide ((i64.wrap (w - v0)) ≤ (v1.length : Int))) (szc (([] : L_u8).length) ((v1.drop ((i64.wrap (w - v0)).toNat)).length) 1 (LP0 0 (w, [] ++ (v1.drop ((i64.wrap (w - v0)).toNat)), i64.wrap (v2 - (i64.wrap (w - v0))), p, []))) none))))
def F117 (k : Nat) (v : (den mth)) (w p : Int) (q : L_rng) : Option ((den mth) × Int) := F117_T (F117_l0 k v w p q k) some k v w p q
theorem F117_ev {β : Type} (k : Nat) (v : (den mth)) (w p : Int) (q : L_rng) (K : KT β) : evalF (F117_E k) Tryz.f117 (PsT.put F117_A (v, w, p, q, ())) K = (F117 k v w p q).bind fun r => K (F117_O.put r) :=
 Eq.trans (b := F117_T (F117_l0_g k v w p q K k) (fun r => K (F117_O.put r)) k v w p q) (by kernel_rfl) (by simp only [F117, F117_T, z1, z2, z3, z4, z5, u_mth, F117_l0_lp])
def F117_d (k : Nat) : FD := ⟨117, F117_A, F117_O, F117 k⟩
theorem F117_q (k : Nat) : (F117_d k).Ok Tryz.prog := ⟨fun x => con_of (envOk (tabsOk (.c (F107_q k) (.c (F44_q k) (.c (F111_q k) .n)))) _ _ _ _) mixed Tryz.func117 rfl rfl (F117_ev k _ _ _ _ some), .of (by kernel_rfl)⟩
def F53_h : Nat → Hint
 | 0 => ⟨pl 2 3 (pl 6 2 ((9, .own .own rng []) :: (pl 10 1 []))), pl 2000 24 (pl 3000 11 (pl 4000 24 []))⟩
 | _ => ⟨[], []⟩
abbrev F53_E (k : Nat) : Env := env (tabs [F116_d k, F117_d k, F107_d k]) F53_h .ro [] k
abbrev F53_A : List PA := [.agg (.pair mI (.pair mI m_9)), .agg m_24]
abbrev F53_O : RO := ⟨[.a, .v], [.pair mI (.pair mI m_9), mB]⟩
noncomputable def F53_z {β : Type} (k : Nat) (v : (den fin)) (w : (den seg)) (K : KT β) : Ex → St → Option β := endC (F53_E k) Tryz.f53 (PsT.put F53_A (v, w, ())) K
def F53_s0 (v : (den fin)) (w : (den seg)) (x6_0 : Int) (x7_0 : Bool) (x10_0 : Int) (m2000_0 : (den fin)) (m9900_0 : L_rng) : St := ⟨(.one .d) :: (.one .d) :: (.one (.ptr (.cell 2000) 24 0)) :: (.one (.ptr (.cell 3000) 11 0)) :: (.one (.ptr (.cell 4000) 24 0)) :: (.one .d) :: (.one (vI x6_0)) :: (.one (vB x7_0)) :: (.one .d) :: (.one (.a (.cell 9900) 0 0 none)) :: (.one (vI x10_0)) :: dz 101 [], rowE 2000 (lsM (.pair mI (.pair mI m_9)) m2000_0) (rowE 3000 (lsM m_24 w) (rowE 4000 (lsM m_16 (0, 0, 0, 0, 0, 0, (0, [], 0, 0, []), (0, 0, [], []), false, false, false, 0, 0, 0, 0, 0, 0)) [eM 9900 (.s .own rng m9900_0)]))⟩
noncomputable def F53_l0_g {β : Type} (k : Nat) (v : (den fin)) (w : (den seg)) (K : KT β) (n : Nat) (x6_0 : Int) (x7_0 : Bool) (x10_0 : Int) (m2000_0 : (den fin)) (m9900_0 : L_rng) : Option β := loopG (F53_E k) Tryz.f53 [1, 1, 1, 1, 1, 1, 0, 1, 0] 0 (kontAt (F53_E k) [1, 1, 1, 1, 1, 1, 0, 1, 0] (bodyOf Tryz.f53) 0 (F53_z k v w K)) n (F53_s0 v w x6_0 x7_0 x10_0 m2000_0 m9900_0)
def F53_l0_T {β : Type} (NX : Int → Bool → Int → (den fin) → L_rng → Option β) (RET : (den fin) × Bool → Option β) (k : Nat) (v : (den fin)) (w : (den seg)) (x6_0 : Int) (x7_0 : Bool) (x10_0 : Int) (m2000_0 : (den fin)) (m9900_0 : L_rng) : Option β := cond (decide (x10_0 < (w.2.2.2.2.2.2.2.2.2.1.length : Int))) (ixc x10_0 w.2.2.2.2.2.2.2.2.2.1 ((F116 k m2000_0.2.2.2.2.2.2.1.1 (atI w.2.2.2.2.2.2.2.2.2.1 x10_0).1).bind fun b2 => ixc x10_0 w.2.2.2.2.2.2.2.2.2.1 ((F116 k m2000_0.2.2.2.2.2.2.1.1 (atI w.2.2.2.2.2.2.2.2.2.1 x10_0).2).bind fun b3 => szc (m9900_0.length) ([(b2, b3)].length) 16 (NX x6_0 x7_0 (i64.wrap (x10_0 + 1)) m2000_0 (m9900_0 ++ [(b2, b3)]))))) ((F117 k m2000_0.2.2.2.2.2.2.1 x6_0 w.2.2.2.2.1 m9900_0).bind fun b4 => (F107 k b4.1).bind fun b5 => cond b5 (cond (decide (b4.1.1 ≥ m2000_0.2.2.2.2.2.2.1.1)) (cond x7_0 (RET ((m2000_0.1, m2000_0.2.1, m2000_0.2.2.1, m2000_0.2.2.2.1, m2000_0.2.2.2.2.1, m2000_0.2.2.2.2.2.1, b4.1, m2000_0.2.2.2.2.2.2.2), true)) (cond (decide (b4.2 > 0)) (RET ((m2000_0.1, m2000_0.2.1, m2000_0.2.2.1, m2000_0.2.2.2.1, m2000_0.2.2.2.2.1, m2000_0.2.2.2.2.2.1, b4.1, m2000_0.2.2.2.2.2.2.2), true)) (cond (decide (b4.1.2.2.2.1 > 0)) (RET ((m2000_0.1, m2000_0.2.1, m2000_0.2.2.1, m2000_0.2.2.2.1, m2000_0.2.2.2.2.1, m2000_0.2.2.2.2.2.1, b4.1, m2000_0.2.2.2.2.2.2.2), (m2000_0.2.2.2.2.2.2.1.2.2.2.1 == 0))) (RET ((m2000_0.1, m2000_0.2.1, m2000_0.2.2.1, m2000_0.2.2.2.1, m2000_0.2.2.2.2.1, m2000_0.2.2.2.2.2.1, b4.1, m2000_0.2.2.2.2.2.2.2), false))))) (RET (m2000_0, x7_0))) (RET (m2000_0, x7_0)))
def F53_l0 (k : Nat) (v : (den fin)) (w : (den seg)) : Nat → Int → Bool → Int → (den fin) → L_rng → Option ((den fin) × Bool)
 | 0, _, _, _, _, _ => none
 | n + 1, x6_0, x7_0, x10_0, m2000_0, m9900_0 => F53_l0_T (F53_l0 k v w n) some k v w x6_0 x7_0 x10_0 m2000_0 m9900_0
theorem F53_l0_lp {β : Type} (k : Nat) (v : (den fin)) (w : (den seg)) (K : KT β) (n : Nat) : ∀ (x6_0 : Int) (x7_0 : Bool) (x10_0 : Int) (m2000_0 : (den fin)) (m9900_0 : L_rng), F53_l0_g k v w K n x6_0 x7_0 x10_0 m2000_0 m9900_0 =
  (F53_l0 k v w n x6_0 x7_0 x10_0 m2000_0 m9900_0).bind fun r => K (F53_O.put r) := by
 induction n with
 | zero => intros; rfl
 | succ n ih =>
  intro x6_0 x7_0 x10_0 m2000_0 m9900_0
  refine Eq.trans (b := F53_l0_T (F53_l0_g k v w K n) (fun r => K (F53_O.put r)) k v w x6_0 x7_0 x10_0 m2000_0 m9900_0) (by kernel_rfl) ?_
  rw [F53_l0]
  simp only [F53_l0_T, z1, z2, z3, z4, z5, u_fin, u_seg, ih]
def F53_T {β : Type} (LP0 : Int → Bool → Int → (den fin) → L_rng → Option β) (k : Nat) (v : (den fin)) (w : (den seg)) : Option β := u_fin v fun v0 v1 v2 v3 v4 v5 v6 v7 _ _ _ _ _ _ _ v15 v16 v17 _ _ _ _ _ _ => (F116 k v6 w.2.2.2.1).bind fun b1 => cond v16 (cond (b1 == (i64.wrap ((i64.wrap (v6 + (v7.length : Int))) + 1))) (LP0 (i64.wrap (v6 + (v7.length : Int))) (!v17) 0 (v0, v1, v2, v3, v4, v5, v.2.2.2.2.2.2.1, v.2.2.2.2.2.2.2.1, v15, v16, true, v.2.2.2.2.2.2.2.2.2.2.2) []) (LP0 b1 false 0 v [])) (LP0 b1 false 0 v [])
def F53 (k : Nat) (v : (den fin)) (w : (den seg)) : Option ((den fin) × Bool) := F53_T (F53_l0 k v w k) k v w
theorem F53_ev {β : Type} (k : Nat) (v : (den fin)) (w : (den seg)) (K : KT β) : evalF (F53_E k) Tryz.f53 (PsT.put F53_A (v, w, ())) K = (F53 k v w).bind fun r => K (F53_O.put r) :=
 Eq.trans (b := F53_T (F53_l0_g k v w K k) k v w) (by kernel_rfl) (by simp only [F53, F53_T, z1, z2, z3, z4, z5, u_fin, u_seg, F53_l0_lp])
def F53_d (k : Nat) : FD := ⟨53, F53_A, F53_O, F53 k⟩
theorem F53_q (k : Nat) : (F53_d k).Ok Tryz.prog := ⟨fun x => con_of (envOk (tabsOk (.c (F116_q k) (.c (F117_q k) (.c (F107_q k) .n)))) _ _ _ _) mixed Tryz.func53 rfl rfl (F53_ev k _ _ some), .of (by kernel_rfl)⟩
def F154_h : Nat → Hint
 | 0 => ⟨pl 0 1 (pl 3 1 ((5, .own .own erl []) :: (pl 6 2 []))), pl 3000 2 []⟩
 | _ => ⟨[], []⟩
abbrev F154_E (k : Nat) : Env := env noTab F154_h .own [] k
abbrev F154_A : List PA := [.one (.sl .ro erl), .agg (.pair mI (.int .u8))]
abbrev F154_O : RO := ⟨[.v], [.sl .own erl]⟩
noncomputable def F154_z {β : Type} (k : Nat) (v : L_erl) (w : (den erl)) (K : KT β) : Ex → St → Option β := endC (F154_E k) Tryz.f154 (PsT.put F154_A (v, w, ())) K
def F154_s0 (v : L_erl) (w : (den erl)) (x6_0 : Bool) (x7_0 : Int) (m5900_0 : L_erl) : St := ⟨(.one (.s .ro erl v)) :: (.one .d) :: (.one .d) :: (.one (.ptr (.cell 3000) 2 0)) :: (.one .d) :: (.one (.a (.cell 5900) 0 0 none)) :: (.one (vB x6_0)) :: (.one (vI x7_0)) :: dz 45 [], rowE 3000 (lsM (.pair mI (.int .u8)) w) [eM 5900 (.s .own erl m5900_0)]⟩
noncomputable def F154_l0_g {β : Type} (k : Nat) (v : L_erl) (w : (den erl)) (K : KT β) (n : Nat) (x6_0 : Bool) (x7_0 : Int) (m5900_0 : L_erl) : Option β := loopG (F154_E k) Tryz.f154 [1, 1, 1, 0, 1, 0] 0 (kontAt (F154_E k) [1, 1, 1, 0, 1, 0] (bodyOf Tryz.f154) 0 (F154_z k v w K)) n (F154_s0 v w x6_0 x7_0 m5900_0)
def F154_l0_j1 {β : Type} (k : Nat) (v : L_erl) (w : (den erl)) (NX : Bool → Int → L_erl → Option β) (RET : L_erl → Option β) (x7_0 : Int) (m5900_0 : L_erl) : Option β := u_erl w fun w0 w1 => ixc x7_0 v (szc ((m5900_0 ++ [(w0, w1)]).length) ([(atI v x7_0)].length) 16 (NX true (i64.wrap (x7_0 + 1)) ((m5900_0 ++ [(w0, w1)]) ++ [(atI v x7_0)])))
def F154_l0_j2 {β : Type} (k : Nat) (v : L_erl) (w : (den erl)) (NX : Bool → Int → L_erl → Option β) (RET : L_erl → Option β) (x7_0 : Int) (m5900_0 : L_erl) (x6_0 : Bool) : Option β := ixc x7_0 v (cond (w.1 == (atI v x7_0).1) (ixc x7_0 v (szc (m5900_0.length) ([(atI v x7_0)].length) 16 (NX true (i64.wrap (x7_0 + 1)) (m5900_0 ++ [(atI v x7_0)])))) (ixc x7_0 v (szc (m5900_0.length) ([(atI v x7_0)].length) 16 (NX x6_0 (i64.wrap (x7_0 + 1)) (m5900_0 ++ [(atI v x7_0)])))))
def F154_l0_T {β : Type} (NX : Bool → Int → L_erl → Option β) (RET : L_erl → Option β) (k : Nat) (v : L_erl) (w : (den erl)) (x6_0 : Bool) (x7_0 : Int) (m5900_0 : L_erl) : Option β := u_erl w fun w0 w1 => cond (decide (x7_0 < (v.length : Int))) (cond (!x6_0) (ixc x7_0 v (cond (decide (w0 < (atI v x7_0).1)) (szc (m5900_0.length) ([(w0, w1)].length) 16 (ixc x7_0 v (cond (w0 == (atI v x7_0).1) (F154_l0_j1 k v w NX RET x7_0 m5900_0) (F154_l0_j1 k v w NX RET x7_0 m5900_0)))) (F154_l0_j2 k v w NX RET x7_0 m5900_0 x6_0))) (F154_l0_j2 k v w NX RET x7_0 m5900_0 x6_0)) (cond (!x6_0) (szc (m5900_0.length) ([(w0, w1)].length) 16 (RET (m5900_0 ++ [(w0, w1)]))) (RET m5900_0))
def F154_l0 (k : Nat) (v : L_erl) (w : (den erl)) : Nat → Bool → Int → L_erl → Option (L_erl)
 | 0, _, _, _ => none
 | n + 1, x6_0, x7_0, m5900_0 => F154_l0_T (F154_l0 k v w n) some k v w x6_0 x7_0 m5900_0
theorem F154_l0_lp {β : Type} (k : Nat) (v : L_erl) (w : (den erl)) (K : KT β) (n : Nat) : ∀ (x6_0 : Bool) (x7_0 : Int) (m5900_0 : L_erl), F154_l0_g k v w K n x6_0 x7_0 m5900_0 =
  (F154_l0 k v w n x6_0 x7_0 m5900_0).bind fun r => K (F154_O.put r) := by
 induction n with
 | zero => intros; rfl
 | succ n ih =>
  intro x6_0 x7_0 m5900_0
  refine Eq.trans (b := F154_l0_T (F154_l0_g k v w K n) (fun r => K (F154_O.put r)) k v w x6_0 x7_0 m5900_0) (by kernel_rfl) ?_
  rw [F154_l0]
  simp only [F154_l0_T, F154_l0_j1, F154_l0_j2, z1, z2, z3, z4, z5, u_erl, ih]
def F154_T {β : Type} (LP0 : Bool → Int → L_erl → Option β) (k : Nat) (v : L_erl) (w : (den erl)) : Option β := LP0 false 0 []
def F154 (k : Nat) (v : L_erl) (w : (den erl)) : Option (L_erl) := F154_T (F154_l0 k v w k) k v w
theorem F154_ev {β : Type} (k : Nat) (v : L_erl) (w : (den erl)) (K : KT β) : evalF (F154_E k) Tryz.f154 (PsT.put F154_A (v, w, ())) K = (F154 k v w).bind fun r => K (F154_O.put r) :=
 Eq.trans (b := F154_T (F154_l0_g k v w K k) k v w) (by kernel_rfl) (by simp only [F154, F154_T, z1, z2, z3, z4, z5, u_erl, F154_l0_lp])
def F154_d (k : Nat) : FD := ⟨154, F154_A, F154_O, F154 k⟩
theorem F154_q (k : Nat) : (F154_d k).Ok Tryz.prog := ⟨fun x => con_of (envOk .none _ _ _ _) mixed Tryz.func154 rfl rfl (F154_ev k _ _ some), .of (by kernel_rfl)⟩
def F118_h : Nat → Hint
 | 0 => ⟨pl 1 3 (pl 6 2 ((8, .own .own erl []) :: (pl 9 1 []))), pl 3000 4 (pl 6000 4 [])⟩
 | 2 => ⟨pl 6 1 (pl 8 1 (pl 10 2 [])), pl 6000 4 (pl 8900 1 (pl 10000 2 ((10002, .own .own (.int .u8) []) :: (pl 10003 1 (pl 66000 1 [])))))⟩
 | _ => ⟨[], []⟩
abbrev F118_E (k : Nat) : Env := env (tabs [F108_d k, F44_d k, F114_d k, F154_d k]) F118_h .own [] k
abbrev F118_A : List PA := [.agg (.pair mI (.pair mI m_4)), .one mI, .one (.sl .ro (.int .u8))]
abbrev F118_O : RO := ⟨[.a], [.pair mI (.pair mI m_12)]⟩
noncomputable def F118_z {β : Type} (k : Nat) (v : (den ear)) (w : Int) (p : L_u8) (K : KT β) : Ex → St → Option β := endC (F118_E k) Tryz.f118 (PsT.put F118_A (v, w, p, ())) K
def F118_s2 (v : (den ear)) (w : Int) (p : L_u8) (x11_2 : Int) (m8900_2 : L_erl) (m10000_2 : (den ear)) : St := ⟨dz 6 ((.one (.ptr (.cell 6000) 4 0)) :: (.one .d) :: (.one (.a (.cell 8900) 0 0 none)) :: (.one .d) :: (.one (.ptr (.cell 10000) 4 0)) :: (.one (vI x11_2)) :: dz 95 []), rowE 6000 (lsM (.pair mI (.pair mI m_12)) (0, 0, [], [])) ((eM 8900 (.s .own erl m8900_2)) :: rowE 10000 (lsM (.pair mI (.pair mI m_12)) m10000_2) [eM 66000 .d])⟩
noncomputable def F118_l2_g {β : Type} (k : Nat) (v : (den ear)) (w : Int) (p : L_u8) (K : KT β) (n : Nat) (x11_2 : Int) (m8900_2 : L_erl) (m10000_2 : (den ear)) : Option β := loopG (F118_E k) Tryz.f118 [1, 1, 1, 1, 1, 1, 1, 0, 0] 2 (kontAt (F118_E k) [1, 1, 1, 1, 1, 1, 1, 0, 0] (bodyOf Tryz.f118) 0 (F118_z k v w p K)) n (F118_s2 v w p x11_2 m8900_2 m10000_2)
def F118_l2_j1 {β : Type} (k : Nat) (v : (den ear)) (w : Int) (p : L_u8) (NX : Int → L_erl → (den ear) → Option β) (RET : (den ear) → Option β) (x11_2 : Int) (m8900_2 : L_erl) (m10000_2 : (den ear)) : Option β := cond (decide (0 ≤ x11_2) && decide (x11_2 ≤ (m8900_2.length : Int))) (cond (decide (m10000_2.1 > 1000000)) (RET (0, 0, [], [])) (RET (m10000_2.1, m10000_2.2.1, m10000_2.2.2.1, (m8900_2.take (((m8900_2.length : Int)).toNat)).drop x11_2.toNat))) none
def F118_l2_T {β : Type} (NX : Int → L_erl → (den ear) → Option β) (RET : (den ear) → Option β) (k : Nat) (v : (den ear)) (w : Int) (p : L_u8) (x11_2 : Int) (m8900_2 : L_erl) (m10000_2 : (den ear)) : Option β := cond (decide (x11_2 < (m8900_2.length : Int))) (ixc x11_2 m8900_2 (cond ((atI m8900_2 x11_2).1 == m10000_2.1) (ixc x11_2 m8900_2 (szc (m10000_2.2.2.1.length) ([(atI m8900_2 x11_2).2].length) 1 (NX (i64.wrap (x11_2 + 1)) m8900_2 (i64.wrap (m10000_2.1 + 1), m10000_2.2.1, m10000_2.2.2.1 ++ [(atI m8900_2 x11_2).2], m10000_2.2.2.2)))) (F118_l2_j1 k v w p NX RET x11_2 m8900_2 m10000_2))) (F118_l2_j1 k v w p NX RET x11_2 m8900_2 m10000_2)
def F118_l2 (k : Nat) (v : (den ear)) (w : Int) (p : L_u8) : Nat → Int → L_erl → (den ear) → Option ((den ear))
 | 0, _, _, _ => none
 | n + 1, x11_2, m8900_2, m10000_2 => F118_l2_T (F118_l2 k v w p n) some k v w p x11_2 m8900_2 m10000_2
theorem F118_l2_lp {β : Type} (k : Nat) (v : (den ear)) (w : Int) (p : L_u8) (K : KT β) (n : Nat) : ∀ (x11_2 : Int) (m8900_2 : L_erl) (m10000_2 : (den ear)), F118_l2_g k v w p K n x11_2 m8900_2 m10000_2 =
  (F118_l2 k v w p n x11_2 m8900_2 m10000_2).bind fun r => K (F118_O.put r) := by
 induction n with
 | zero => intros; rfl
 | succ n ih =>
  intro x11_2 m8900_2 m10000_2
  refine Eq.trans (b := F118_l2_T (F118_l2_g k v w p K n) (fun r => K (F118_O.put r)) k v w p x11_2 m8900_2 m10000_2) (by kernel_rfl) ?_
  rw [F118_l2]
  simp only [F118_l2_T, F118_l2_j1, z1, z2, z3, z4, z5, u_ear, ih]
def F118_s0 (v : (den ear)) (w : Int) (p : L_u8) (x7_0 x9_0 : Int) (m8900_0 : L_erl) : St := ⟨(.one .d) :: (.one (vI w)) :: (.one (.s .ro (.int .u8) p)) :: (.one (.ptr (.cell 3000) 4 0)) :: (.one .d) :: (.one .d) :: (.one (.ptr (.cell 6000) 4 0)) :: (.one (vI x7_0)) :: (.one (.a (.cell 8900) 0 0 none)) :: (.one (vI x9_0)) :: dz 97 [], rowE 3000 (lsM (.pair mI (.pair mI m_4)) v) (rowE 6000 (lsM (.pair mI (.pair mI m_12)) (0, 0, [], [])) [eM 8900 (.s .own erl m8900_0)])⟩
noncomputable def F118_l0_g {β : Type} (k : Nat) (v : (den ear)) (w : Int) (p : L_u8) (K : KT β) (n : Nat) (x7_0 x9_0 : Int) (m8900_0 : L_erl) : Option β := loopG (F118_E k) Tryz.f118 [1, 1, 1, 1, 0, 1, 0] 0 (kontAt (F118_E k) [1, 1, 1, 1, 0, 1, 0] (bodyOf Tryz.f118) 0 (F118_z k v w p K)) n (F118_s0 v w p x7_0 x9_0 m8900_0)
def F118_l0_T {β : Type} (NX : Int → Int → L_erl → Option β) (LP2 : Int → L_erl → (den ear) → Option β) (k : Nat) (v : (den ear)) (w : Int) (p : L_u8) (x7_0 x9_0 : Int) (m8900_0 : L_erl) : Option β := u_ear v fun v0 v1 v2 _ => cond (decide (x9_0 < (p.length : Int))) (cond (decide ((i64.wrap (w + x9_0)) ≥ v0)) (cond (decide ((i64.wrap (w + x9_0)) < (i64.wrap (v0 + x7_0)))) (ixc x9_0 p ((F154 k m8900_0 (i64.wrap (w + x9_0), atI p x9_0)).bind fun b4 => NX x7_0 (i64.wrap (x9_0 + 1)) b4)) (NX x7_0 (i64.wrap (x9_0 + 1)) m8900_0)) (NX x7_0 (i64.wrap (x9_0 + 1)) m8900_0)) (szc (([] : L_u8).length) (v2.length) 1 (LP2 0 m8900_0 (v0, v1, [] ++ v2, [])))
def F118_l0 (k : Nat) (v : (den ear)) (w : Int) (p : L_u8) : Nat → Int → Int → L_erl → Option ((den ear))
 | 0, _, _, _ => none
 | n + 1, x7_0, x9_0, m8900_0 => F118_l0_T (F118_l0 k v w p n) (F118_l2 k v w p k) k v w p x7_0 x9_0 m8900_0
theorem F118_l0_lp {β : Type} (k : Nat) (v : (den ear)) (w : Int) (p : L_u8) (K : KT β) (n : Nat) : ∀ (x7_0 x9_0 : Int) (m8900_0 : L_erl), F118_l0_g k v w p K n x7_0 x9_0 m8900_0 =
  (F118_l0 k v w p n x7_0 x9_0 m8900_0).bind fun r => K (F118_O.put r) := by
 induction n with
 | zero => intros; rfl
 | succ n ih =>
  intro x7_0 x9_0 m8900_0
  refine Eq.trans (b := F118_l0_T (F118_l0_g k v w p K n) (F118_l2_g k v w p K k) k v w p x7_0 x9_0 m8900_0) (by kernel_rfl) ?_
  rw [F118_l0]
  simp only [F118_l0_T, z1, z2, z3, z4, z5, u_ear, F118_l2_lp, ih]
def F118_T {β : Type} (LP0 : Int → Int → L_erl → Option β) (RET : (den ear) → Option β) (k : Nat) (v : (den ear)) (w : Int) (p : L_u8) : Option β := (F108 k v).bind fun b1 => cond (!b1) (RET (0, 0, [], [])) ((F44 k w 0 1000000).bind fun b2 => cond (!b2) (RET (0, 0, [], [])) ((F114 k v).bind fun b3 => szc (([] : L_erl).length) (v.2.2.2.length) 16 (LP0 b3 0 ([] ++ v.2.2.2))))
def F118 (k : Nat) (v : (den ear)) (w : Int) (p : L_u8) : Option ((den ear)) := F118_T (F118_l0 k v w p k) some k v w p
theorem F118_ev {β : Type} (k : Nat) (v : (den ear)) (w : Int) (p : L_u8) (K : KT β) : evalF (F118_E k) Tryz.f118 (PsT.put F118_A (v, w, p, ())) K = (F118 k v w p).bind fun r => K (F118_O.put r) :=
 Eq.trans (b := F118_T (F118_l0_g k v w p K k) (fun r => K (F118_O.put r)) k v w p) (by kernel_rfl) (by simp only [F118, F118_T, z1, z2, z3, z4, z5, u_ear, F118_l0_lp])
def F118_d (k : Nat) : FD := ⟨118, F118_A, F118_O, F118 k⟩
theorem F118_q (k : Nat) : (F118_d k).Ok Tryz.prog := ⟨fun x => con_of (envOk (tabsOk (.c (F108_q k) (.c (F44_q k) (.c (F114_q k) (.c (F154_q k) .n))))) _ _ _ _) mixed Tryz.func118 rfl rfl (F118_ev k _ _ _ some), .of (by kernel_rfl)⟩
end
end Go.Proofs.YtjkkbmkkljpcjaaGreat.Gn
end

section
set_option linter.unusedVariables false
set_option linter.unusedSimpArgs false
namespace Go.Proofs.YtjkkbmkkljpcjaaGreat.Gn
open Go.Rf IntKind
noncomputable section
def F54_k1 : Hint := keepH [2, 3, 4, 5] [2000, 2001, 2002, 2003, 2004, 2005, 2006, 2007, 2008, 2009, 2010, 2011, 2012, 2013, 2014, 2015, 2016, 2017, 2018, 2019, 2020, 2021, 2022, 2023, 3000, 3001, 3002, 3003, 3004, 3005, 3006, 3007, 3008, 3009, 3010, 4000, 4001, 4002, 4003, 4004, 4005, 4006, 4007, 4008, 4009, 4010, 4011, 4012, 4013, 4014, 4015, 4016, 4017, 4018, 4019, 4020, 4021, 4022, 4023]
def F54_k2 : Hint := keepH [2, 3, 4, 5, 6] [2000, 2001, 2002, 2003, 2004, 2005, 2006, 2007, 2008, 2009, 2010, 2011, 2012, 2013, 2014, 2015, 2016, 2017, 2018, 2019, 2020, 2021, 2022, 2023, 3000, 3001, 3002, 3003, 3004, 3005, 3006, 3007, 3008, 3009, 3010, 4000, 4001, 4002, 4003, 4004, 4005, 4006, 4007, 4008, 4009, 4010, 4011, 4012, 4013, 4014, 4015, 4016, 4017, 4018, 4019, 4020, 4021, 4022, 4023]
def F54_k3 : Hint := keepH [2, 4] [2000, 2001, 2002, 2003, 2004, 2005, 2006, 2007, 2008, 2009, 2010, 2011, 2012, 2013, 2014, 2015, 2016, 2017, 2018, 2019, 2020, 2021, 2022, 2023, 4000, 4001, 4002, 4003, 4004, 4005, 4006, 4007, 4008, 4009, 4010, 4011, 4012, 4013, 4014, 4015, 4016, 4017, 4018, 4019, 4020, 4021, 4022, 4023, 43002, 43003]
def F54_rh : Nat → Option Hint
 | 4 => some F54_k1
 | 7 => some F54_k2
 | 14 => some F54_k3
 | _ => none
abbrev F54_E (k : Nat) : Env := { env (tabs [F116_d k, F118_d k, F108_d k, F114_d k]) noHint .ro [] k with rh := F54_rh }
abbrev F54_A : List PA := [.agg (.pair mI (.pair mI m_9)), .agg m_24]
abbrev F54_O : RO := ⟨[.a], [.pair mI (.pair mI m_9)]⟩
noncomputable def F54_z {β : Type} (k : Nat) (v : (den fin)) (w : (den seg)) (K : KT β) : Ex → St → Option β := endC (F54_E k) Tryz.f54 (PsT.put F54_A (v, w, ())) K
def F54_s1 (v : (den fin)) (w : (den seg)) (x5_c1 : Int) : St := ⟨(.one .d) :: (.one .d) :: (.one (.ptr (.cell 2000) 24 0)) :: (.one (.ptr (.cell 3000) 11 0)) :: (.one (.ptr (.cell 4000) 24 0)) :: (.one (vI x5_c1)) :: dz 91 [], rowE 2000 (lsM (.pair mI (.pair mI m_9)) v) (rowE 3000 (lsM m_24 w) (rowE 4000 (lsM m_16 (0, 0, 0, 0, 0, 0, (0, [], 0, 0, []), (0, 0, [], []), false, false, false, 0, 0, 0, 0, 0, 0)) []))⟩
def F54_s2 (v : (den fin)) (w : (den seg)) (x5_c2 x6_c2 : Int) : St := ⟨(.one .d) :: (.one .d) :: (.one (.ptr (.cell 2000) 24 0)) :: (.one (.ptr (.cell 3000) 11 0)) :: (.one (.ptr (.cell 4000) 24 0)) :: (.one (vI x5_c2)) :: (.one (vI x6_c2)) :: dz 90 [], rowE 2000 (lsM (.pair mI (.pair mI m_9)) v) (rowE 3000 (lsM m_24 w) (rowE 4000 (lsM m_16 (0, 0, 0, 0, 0, 0, (0, [], 0, 0, []), (0, 0, [], []), false, false, false, 0, 0, 0, 0, 0, 0)) []))⟩
def F54_s3 (v : (den fin)) (w : (den seg)) (m2000_c3 : (den fin)) : St := ⟨(.one .d) :: (.one .d) :: (.one (.ptr (.cell 2000) 24 0)) :: (.one .d) :: (.one (.ptr (.cell 4000) 24 0)) :: dz 92 [], (iM 2000 m2000_c3.1) :: (iM 2001 m2000_c3.2.1) :: (iM 2002 m2000_c3.2.2.1) :: (iM 2003 m2000_c3.2.2.2.1) :: (iM 2004 m2000_c3.2.2.2.2.1) :: (iM 2005 m2000_c3.2.2.2.2.2.1) :: (iM 2006 m2000_c3.2.2.2.2.2.2.1.1) :: (eM 2007 (.s .ro (.int .u8) m2000_c3.2.2.2.2.2.2.1.2.1)) :: (iM 2008 m2000_c3.2.2.2.2.2.2.1.2.2.1) :: (iM 2009 m2000_c3.2.2.2.2.2.2.1.2.2.2.1) :: (eM 2010 (.s .ro rng m2000_c3.2.2.2.2.2.2.1.2.2.2.2)) :: (iM 2011 m2000_c3.2.2.2.2.2.2.2.1.1) :: (iM 2012 m2000_c3.2.2.2.2.2.2.2.1.2.1) :: (eM 2013 (.a (.cell 43002) 0 0 none)) :: (eM 2014 (.a (.cell 43003) 0 0 none)) :: (eM 2015 (vB m2000_c3.2.2.2.2.2.2.2.2.1)) :: (eM 2016 (vB m2000_c3.2.2.2.2.2.2.2.2.2.1)) :: (eM 2017 (vB m2000_c3.2.2.2.2.2.2.2.2.2.2.1)) :: (iM 2018 m2000_c3.2.2.2.2.2.2.2.2.2.2.2.1) :: (iM 2019 m2000_c3.2.2.2.2.2.2.2.2.2.2.2.2.1) :: (iM 2020 m2000_c3.2.2.2.2.2.2.2.2.2.2.2.2.2.1) :: (iM 2021 m2000_c3.2.2.2.2.2.2.2.2.2.2.2.2.2.2.1) :: (iM 2022 m2000_c3.2.2.2.2.2.2.2.2.2.2.2.2.2.2.2.1) :: (iM 2023 m2000_c3.2.2.2.2.2.2.2.2.2.2.2.2.2.2.2.2) :: (rowE 4000 (lsM m_16 (0, 0, 0, 0, 0, 0, (0, [], 0, 0, []), (0, 0, [], []), false, false, false, 0, 0, 0, 0, 0, 0)) [eM 43002 (.s .own (.int .u8) m2000_c3.2.2.2.2.2.2.2.1.2.2.1), eM 43003 (.s .own erl m2000_c3.2.2.2.2.2.2.2.1.2.2.2)])⟩
def F54_c3t {β : Type} (RET : (den fin) → Option β) (k : Nat) (v : (den fin)) (w : (den seg)) (m2000_c3 : (den fin)) : Option β := RET m2000_c3
def F54_c3 {β : Type} (k : Nat) (v : (den fin)) (w : (den seg)) (m2000_c3 : (den fin)) (RET : (den fin) → Option β) : Option β := F54_c3t RET k v w m2000_c3
theorem F54_c3_b {β γ : Type} (k : Nat) (v : (den fin)) (w : (den seg)) (m2000_c3 : (den fin)) (RET : (den fin) → Option β) (g : β → Option γ) : (F54_c3 k v w m2000_c3 RET).bind g = F54_c3 k v w m2000_c3 (fun r => (RET r).bind g) := by
 simp only [F54_c3, F54_c3t, u_fin, u_seg, z1, z2, z4]
theorem F54_c3_e {β : Type} (k : Nat) (v : (den fin)) (w : (den seg)) (m2000_c3 : (den fin)) (K : KT β) : restC (F54_E k) (codeAt [1, 1, 1, 1, 1, 1, 1, 1, 1, 1] (bodyOf Tryz.f54)) (F54_z k v w K) (F54_s3 v w m2000_c3) = F54_c3 k v w m2000_c3 (fun r => K (F54_O.put r)) := by kernel_rfl
def F54_c2t {β : Type} (RET : (den fin) → Option β) (GT : (den fin) → Option β) (k : Nat) (v : (den fin)) (w : (den seg)) (x5_c2 x6_c2 : Int) : Option β := u_fin v fun v0 v1 v2 v3 v4 v5 _ _ _ _ _ _ _ _ _ v15 v16 v17 v18 _ _ _ _ _ => (F118 k v.2.2.2.2.2.2.2.1 x5_c2 w.2.2.2.2.2.2.2.2.2.2).bind fun b23 => (F108 k b23).bind fun b24 => cond (!b24) (RET v) (cond w.2.2.2.2.2.2.2.1 (cond (v18 == (-1)) (cond (decide (x6_c2 ≥ b23.1)) ((F114 k b23).bind fun b25 => cond (decide (x6_c2 ≤ (i64.wrap (b23.1 + b25)))) (cond (decide (x6_c2 ≤ 1000000)) (cond ((b23.2.2.2.length : Int) == 0) (GT (v0, v1, v2, v3, v4, v5, v.2.2.2.2.2.2.1, b23, v15, v16, v17, x6_c2, v.2.2.2.2.2.2.2.2.2.2.2.2)) (ixc (i64.wrap ((b23.2.2.2.length : Int) - 1)) b23.2.2.2 (cond (decide ((atI b23.2.2.2 (i64.wrap ((b23.2.2.2.length : Int) - 1))).1 < x6_c2)) (GT (v0, v1, v2, v3, v4, v5, v.2.2.2.2.2.2.1, b23, v15, v16, v17, x6_c2, v.2.2.2.2.2.2.2.2.2.2.2.2)) (GT (v0, v1, v2, v3, v4, v5, v.2.2.2.2.2.2.1, b23, v.2.2.2.2.2.2.2.2))))) (GT (v0, v1, v2, v3, v4, v5, v.2.2.2.2.2.2.1, b23, v.2.2.2.2.2.2.2.2))) (GT (v0, v1, v2, v3, v4, v5, v.2.2.2.2.2.2.1, b23, v.2.2.2.2.2.2.2.2))) (GT (v0, v1, v2, v3, v4, v5, v.2.2.2.2.2.2.1, b23, v.2.2.2.2.2.2.2.2))) (GT (v0, v1, v2, v3, v4, v5, v.2.2.2.2.2.2.1, b23, v.2.2.2.2.2.2.2.2))) (GT (v0, v1, v2, v3, v4, v5, v.2.2.2.2.2.2.1, b23, v.2.2.2.2.2.2.2.2)))
def F54_c2 {β : Type} (k : Nat) (v : (den fin)) (w : (den seg)) (x5_c2 x6_c2 : Int) (RET : (den fin) → Option β) : Option β := F54_c2t RET (fun y0 => F54_c3 k v w y0 RET) k v w x5_c2 x6_c2
theorem F54_c2_b {β γ : Type} (k : Nat) (v : (den fin)) (w : (den seg)) (x5_c2 x6_c2 : Int) (RET : (den fin) → Option β) (g : β → Option γ) : (F54_c2 k v w x5_c2 x6_c2 RET).bind g = F54_c2 k v w x5_c2 x6_c2 (fun r => (RET r).bind g) := by
 simp only [F54_c2, F54_c2t, u_fin, u_seg, z1, z2, z4, F54_c3_b]
theorem F54_c2_p {β : Type} (k : Nat) (v : (den fin)) (w : (den seg)) (x5_c2 x6_c2 : Int) (t : St → Option β) (K : KT β) : regS (F54_E k) (codeAt [1, 1, 1, 1, 1, 0] (bodyOf Tryz.f54)) (F54_s2 v w x5_c2 x6_c2) (thenC (F54_E k) (codeAt [1, 1, 1, 1, 1, 1, 0] (bodyOf Tryz.f54)) 0 (thenC (F54_E k) (codeAt [1, 1, 1, 1, 1, 1, 1, 0] (bodyOf Tryz.f54)) 0 (thenC (F54_E k) (codeAt [1, 1, 1, 1, 1, 1, 1, 1, 0] (bodyOf Tryz.f54)) 0 (thenC (F54_E k) (codeAt [1, 1, 1, 1, 1, 1, 1, 1, 1, 0] (bodyOf Tryz.f54)) 0 (thenK (F54_E k) F54_k3 t (F54_z k v w K)))))) =
  F54_c2t (fun r => K (F54_O.put r)) (fun y0 => t (F54_s3 v w y0)) k v w x5_c2 x6_c2 := by kernel_rfl
theorem F54_c2_q : (codeAt [1, 1, 1, 1, 1] (bodyOf Tryz.f54)) = (.seq (codeAt [1, 1, 1, 1, 1, 0] (bodyOf Tryz.f54)) (.seq (codeAt [1, 1, 1, 1, 1, 1, 0] (bodyOf Tryz.f54)) (.seq (codeAt [1, 1, 1, 1, 1, 1, 1, 0] (bodyOf Tryz.f54)) (.seq (codeAt [1, 1, 1, 1, 1, 1, 1, 1, 0] (bodyOf Tryz.f54)) (.seq (codeAt [1, 1, 1, 1, 1, 1, 1, 1, 1, 0] (bodyOf Tryz.f54)) (codeAt [1, 1, 1, 1, 1, 1, 1, 1, 1, 1] (bodyOf Tryz.f54))))))) := by kernel_rfl
theorem F54_c2_e {β : Type} (k : Nat) (v : (den fin)) (w : (den seg)) (x5_c2 x6_c2 : Int) (K : KT β) : restC (F54_E k) (codeAt [1, 1, 1, 1, 1] (bodyOf Tryz.f54)) (F54_z k v w K) (F54_s2 v w x5_c2 x6_c2) = F54_c2 k v w x5_c2 x6_c2 (fun r => K (F54_O.put r)) := by
 rw [F54_c2_q, restC_seq, thenC_seq, thenC_seq, thenC_seq, thenC_seq, thenC_kill (c := (codeAt [1, 1, 1, 1, 1, 1, 1, 1, 1, 1] (bodyOf Tryz.f54))) (i := 14) (h := F54_k3) (by kernel_rfl) rfl, F54_c2_p]
 simp only [F54_c3_e, F54_c2]
def F54_c1t {β : Type} (RET : (den fin) → Option β) (GT : Int → Int → Option β) (k : Nat) (v : (den fin)) (w : (den seg)) (x5_c1 : Int) : Option β := cond (decide (x5_c1 < 0)) (RET v) (cond (decide (v.2.2.2.2.2.2.2.2.2.2.2.1 ≥ 0)) (cond (decide ((i64.wrap (x5_c1 + (w.2.2.2.2.2.2.2.2.2.2.length : Int))) > v.2.2.2.2.2.2.2.2.2.2.2.1)) (RET v) (GT x5_c1 (i64.wrap (x5_c1 + (w.2.2.2.2.2.2.2.2.2.2.length : Int))))) (GT x5_c1 (i64.wrap (x5_c1 + (w.2.2.2.2.2.2.2.2.2.2.length : Int)))))
def F54_c1 {β : Type} (k : Nat) (v : (den fin)) (w : (den seg)) (x5_c1 : Int) (RET : (den fin) → Option β) : Option β := F54_c1t RET (fun y0 y1 => F54_c2 k v w y0 y1 RET) k v w x5_c1
theorem F54_c1_b {β γ : Type} (k : Nat) (v : (den fin)) (w : (den seg)) (x5_c1 : Int) (RET : (den fin) → Option β) (g : β → Option γ) : (F54_c1 k v w x5_c1 RET).bind g = F54_c1 k v w x5_c1 (fun r => (RET r).bind g) := by
 simp only [F54_c1, F54_c1t, u_fin, u_seg, z1, z2, z4, F54_c2_b]
theorem F54_c1_p {β : Type} (k : Nat) (v : (den fin)) (w : (den seg)) (x5_c1 : Int) (t : St → Option β) (K : KT β) : regS (F54_E k) (codeAt [1, 1, 1, 0] (bodyOf Tryz.f54)) (F54_s1 v w x5_c1) (thenC (F54_E k) (codeAt [1, 1, 1, 1, 0] (bodyOf Tryz.f54)) 0 (thenK (F54_E k) F54_k2 t (F54_z k v w K))) =
  F54_c1t (fun r => K (F54_O.put r)) (fun y0 y1 => t (F54_s2 v w y0 y1)) k v w x5_c1 := by kernel_rfl
theorem F54_c1_q : (codeAt [1, 1, 1] (bodyOf Tryz.f54)) = (.seq (codeAt [1, 1, 1, 0] (bodyOf Tryz.f54)) (.seq (codeAt [1, 1, 1, 1, 0] (bodyOf Tryz.f54)) (codeAt [1, 1, 1, 1, 1] (bodyOf Tryz.f54)))) := by kernel_rfl
theorem F54_c1_e {β : Type} (k : Nat) (v : (den fin)) (w : (den seg)) (x5_c1 : Int) (K : KT β) : restC (F54_E k) (codeAt [1, 1, 1] (bodyOf Tryz.f54)) (F54_z k v w K) (F54_s1 v w x5_c1) = F54_c1 k v w x5_c1 (fun r => K (F54_O.put r)) := by
 rw [F54_c1_q, restC_seq, thenC_seq, thenC_kill (c := (codeAt [1, 1, 1, 1, 1] (bodyOf Tryz.f54))) (i := 7) (h := F54_k2) (by kernel_rfl) rfl, F54_c1_p]
 simp only [F54_c2_e, F54_c1]
def F54_Tt {β : Type} (RET : (den fin) → Option β) (GT : Int → Option β) (k : Nat) (v : (den fin)) (w : (den seg)) : Option β := (F116 k v.2.2.2.2.2.2.2.1.1 w.2.2.1).bind fun b15 => cond w.2.2.2.2.2.1 (GT (i64.wrap (b15 + 1))) (GT b15)
def F54_T {β : Type} (k : Nat) (v : (den fin)) (w : (den seg)) (RET : (den fin) → Option β) : Option β := F54_Tt RET (fun y0 => F54_c1 k v w y0 RET) k v w
theorem F54_T_b {β γ : Type} (k : Nat) (v : (den fin)) (w : (den seg)) (RET : (den fin) → Option β) (g : β → Option γ) : (F54_T k v w RET).bind g = F54_T k v w (fun r => (RET r).bind g) := by
 simp only [F54_T, F54_Tt, u_fin, u_seg, z1, z2, z4, F54_c1_b]
theorem F54_T_p {β : Type} (k : Nat) (v : (den fin)) (w : (den seg)) (t : St → Option β) (K : KT β) : evalC (F54_E k) (codeAt [0] (bodyOf Tryz.f54)) 0 ⟨(.agg (lsM (.pair mI (.pair mI m_9)) v)) :: (.agg (lsM m_24 w)) :: uz 95 [], []⟩ (thenC (F54_E k) (codeAt [1, 0] (bodyOf Tryz.f54)) 0 (thenC (F54_E k) (codeAt [1, 1, 0] (bodyOf Tryz.f54)) 0 (thenK (F54_E k) F54_k1 t (F54_z k v w K)))) =
  F54_Tt (fun r => K (F54_O.put r)) (fun y0 => t (F54_s1 v w y0)) k v w := by kernel_rfl
theorem F54_T_q : (codeAt [] (bodyOf Tryz.f54)) = (.seq (codeAt [0] (bodyOf Tryz.f54)) (.seq (codeAt [1, 0] (bodyOf Tryz.f54)) (.seq (codeAt [1, 1, 0] (bodyOf Tryz.f54)) (codeAt [1, 1, 1] (bodyOf Tryz.f54))))) := by kernel_rfl
theorem F54_T_e {β : Type} (k : Nat) (v : (den fin)) (w : (den seg)) (K : KT β) : evalC (F54_E k) (codeAt [] (bodyOf Tryz.f54)) 0 ⟨(.agg (lsM (.pair mI (.pair mI m_9)) v)) :: (.agg (lsM m_24 w)) :: uz 95 [], []⟩ (F54_z k v w K) = F54_T k v w (fun r => K (F54_O.put r)) := by
 rw [F54_T_q, evalC_seq, thenC_seq, thenC_seq, thenC_kill (c := (codeAt [1, 1, 1] (bodyOf Tryz.f54))) (i := 4) (h := F54_k1) (by kernel_rfl) rfl, F54_T_p]
 simp only [F54_c1_e, F54_T]
def F54 (k : Nat) (v : (den fin)) (w : (den seg)) : Option ((den fin)) := F54_T k v w some
theorem F54_ev {β : Type} (k : Nat) (v : (den fin)) (w : (den seg)) (K : KT β) : evalF (F54_E k) Tryz.f54 (PsT.put F54_A (v, w, ())) K = (F54 k v w).bind fun r => K (F54_O.put r) := by
 refine Eq.trans (b := evalC (F54_E k) (codeAt [] (bodyOf Tryz.f54)) 0 ⟨(.agg (lsM (.pair mI (.pair mI m_9)) v)) :: (.agg (lsM m_24 w)) :: uz 95 [], []⟩ (F54_z k v w K)) (by kernel_rfl) ?_
 rw [F54_T_e, F54, F54_T_b]
 simp only [z3]
def F54_d (k : Nat) : FD := ⟨54, F54_A, F54_O, F54 k⟩
theorem F54_q (k : Nat) : (F54_d k).Ok Tryz.prog := ⟨fun x => con_of (envOkR F54_rh (tabsOk (.c (F116_q k) (.c (F118_q k) (.c (F108_q k) (.c (F114_q k) .n))))) _ _ _ _) mixed Tryz.func54 rfl rfl (F54_ev k _ _ some), .of (by kernel_rfl)⟩
abbrev F55_E (k : Nat) : Env := env noTab noHint .own [] k
abbrev F55_A : List PA := [.agg m_24]
abbrev F55_O : RO := ⟨[.v], [mI]⟩
def F55_T {β : Type} (RET : Int → Option β) (k : Nat) (v : (den seg)) : Option β := cond v.2.2.2.2.2.1 (cond v.2.2.2.2.2.2.2.1 (RET (i64.wrap ((i64.wrap ((v.2.2.2.2.2.2.2.2.2.2.length : Int) + 1)) + 1))) (RET (i64.wrap ((v.2.2.2.2.2.2.2.2.2.2.length : Int) + 1)))) (cond v.2.2.2.2.2.2.2.1 (RET (i64.wrap ((v.2.2.2.2.2.2.2.2.2.2.length : Int) + 1))) (RET (v.2.2.2.2.2.2.2.2.2.2.length : Int)))
def F55 := F55_T (β := Int) some
theorem F55_ev {β : Type} (k : Nat) (v : (den seg)) (K : KT β) : evalF (F55_E k) Tryz.f55 (PsT.put F55_A (v, ())) K = (F55 k v).bind fun r => K (F55_O.put r) :=
 Eq.trans (b := F55_T (fun r => K (F55_O.put r)) k v) (by kernel_rfl) (by simp only [F55, F55_T, z1, z2, z3, z4, z5, u_seg])
def F55_d (k : Nat) : FD := ⟨55, F55_A, F55_O, F55 k⟩
theorem F55_q (k : Nat) : (F55_d k).Ok Tryz.prog := ⟨fun x => con_of (envOk .none _ _ _ _) mixed Tryz.func55 rfl rfl (F55_ev k _ some), .of (by kernel_rfl)⟩
abbrev F56_E (k : Nat) : Env := env (tabs [F46_d k]) noHint .own [] k
abbrev F56_A : List PA := [.one mI, .one mI]
abbrev F56_O : RO := ⟨[.v], [mB]⟩
def F56_T {β : Type} (RET : Bool → Option β) (k : Nat) (v w : Int) : Option β := (F46 k w).bind fun b1 => (F46 k v).bind fun b2 => (F46 k (i64.wrap (b1 - b2))).bind fun b3 => cond (decide (b3 ≥ 1)) (RET (decide (b3 < 32768))) (RET false)
def F56 := F56_T (β := Bool) some
theorem F56_ev {β : Type} (k : Nat) (v w : Int) (K : KT β) : evalF (F56_E k) Tryz.f56 (PsT.put F56_A (v, w, ())) K = (F56 k v w).bind fun r => K (F56_O.put r) :=
 Eq.trans (b := F56_T (fun r => K (F56_O.put r)) k v w) (by kernel_rfl) (by simp only [F56, F56_T, z1, z2, z3, z4, z5])
def F56_d (k : Nat) : FD := ⟨56, F56_A, F56_O, F56 k⟩
theorem F56_q (k : Nat) : (F56_d k).Ok Tryz.prog := ⟨fun x => con_of (envOk (tabsOk (.c (F46_q k) .n)) _ _ _ _) mixed Tryz.func56 rfl rfl (F56_ev k _ _ some), .of (by kernel_rfl)⟩
end
end Go.Proofs.YtjkkbmkkljpcjaaGreat.Gn
end

section
set_option linter.unusedVariables false
set_option linter.unusedSimpArgs false
namespace Go.Proofs.YtjkkbmkkljpcjaaGreat.Gn
open Go.Rf IntKind
noncomputable section
def F9_k1 : Hint := keepH [1, 3, 4, 6, 8, 10, 11] [4000, 4001, 4002, 4003, 4004, 4005, 4006, 4007, 4008, 4009, 4010, 4011, 4012, 4013, 4014, 4015, 4016, 4017, 4018, 4019, 4020, 4021, 4022, 4023, 6000, 6001, 6002, 6003, 6004, 6005, 6006, 6007, 6008, 6009, 6010, 8000, 8001, 8002, 8003, 8004, 8005, 8006, 8007, 8008, 8009, 8010, 8011, 8012, 8013, 8014, 8015, 8016, 8017, 8018, 8019, 8020, 8021, 8022, 8023, 11000, 11001, 11002, 11003, 11004, 11005, 11006, 11007, 11008, 11009, 11010, 11011, 11012, 11013, 11014, 11015, 11016, 11017, 11018, 11019, 11020, 11021, 11022, 11023, 20000, 42007, 42010, 42013, 42014]
def F9_k2 : Hint := keepH [3, 4, 6, 8, 11] [4000, 4001, 4002, 4003, 4004, 4005, 4006, 4007, 4008, 4009, 4010, 4011, 4012, 4013, 4014, 4015, 4016, 4017, 4018, 4019, 4020, 4021, 4022, 4023, 6000, 6001, 6002, 6003, 6004, 6005, 6006, 6007, 6008, 6009, 6010, 8000, 8001, 8002, 8003, 8004, 8005, 8006, 8007, 8008, 8009, 8010, 8011, 8012, 8013, 8014, 8015, 8016, 8017, 8018, 8019, 8020, 8021, 8022, 8023, 11000, 11001, 11002, 11003, 11004, 11005, 11006, 11007, 11008, 11009, 11010, 11011, 11012, 11013, 11014, 11015, 11016, 11017, 11018, 11019, 11020, 11021, 11022, 11023, 42007, 42010, 42013, 42014]
def F9_k3 : Hint := keepH [3, 6, 8, 11, 15, 16] [6000, 6001, 6002, 6003, 6004, 6005, 6006, 6007, 6008, 6009, 6010, 8000, 8001, 8002, 8003, 8004, 8005, 8006, 8007, 8008, 8009, 8010, 8011, 8012, 8013, 8014, 8015, 8016, 8017, 8018, 8019, 8020, 8021, 8022, 8023, 11000, 11001, 11002, 11003, 11004, 11005, 11006, 11007, 11008, 11009, 11010, 11011, 11012, 11013, 11014, 11015, 11016, 11017, 11018, 11019, 11020, 11021, 11022, 11023]
def F9_rh : Nat → Option Hint
 | 7 => some F9_k1
 | 40 => some F9_k2
 | 47 => some F9_k3
 | _ => none
abbrev F9_E (k : Nat) : Env := { env (tabs [F42_d k, F43_d k, F44_d k, F45_d k, F46_d k, F47_d k, F48_d k, F49_d k, F50_d k, F52_d k, F51_d k, F53_d k, F54_d k, F55_d k, F56_d k]) noHint .ro [] k with rh := F9_rh }
abbrev F9_A : List PA := [.agg (.pair mI (.pair mI m_9)), .one mI, .agg m_24, .one mI]
abbrev F9_O : RO := ⟨[.a, .v], [.pair mI (.pair mI m_9), .sl .ro seg]⟩
noncomputable def F9_z {β : Type} (k : Nat) (v : (den fin)) (w : Int) (p : (den seg)) (q : Int) (K : KT β) : Ex → St → Option β := endC (F9_E k) Tryz.f9 (PsT.put F9_A (v, w, p, q, ())) K
def F9_s1 (v : (den fin)) (w : Int) (p : (den seg)) (q : Int) (m11000_c1 : (den fin)) : St := ⟨(.one .d) :: (.one (vI w)) :: (.one .d) :: (.one (vI q)) :: (.one (.ptr (.cell 4000) 24 0)) :: (.one .d) :: (.one (.ptr (.cell 6000) 11 0)) :: (.one .d) :: (.one (.ptr (.cell 8000) 24 0)) :: (.one .d) :: (.one (.a (.cell 20000) 0 0 none)) :: (.one (.ptr (.cell 11000) 24 0)) :: dz 288 [], rowE 4000 (lsM (.pair mI (.pair mI m_9)) v) (rowE 6000 (lsM m_24 p) (rowE 8000 (lsM m_16 (0, 0, 0, 0, 0, 0, (0, [], 0, 0, []), (0, 0, [], []), false, false, false, 0, 0, 0, 0, 0, 0)) [iM 11000 m11000_c1.1, iM 11001 m11000_c1.2.1, iM 11002 m11000_c1.2.2.1, iM 11003 m11000_c1.2.2.2.1, iM 11004 m11000_c1.2.2.2.2.1, iM 11005 m11000_c1.2.2.2.2.2.1, iM 11006 m11000_c1.2.2.2.2.2.2.1.1, eM 11007 (.a (.cell 42007) 0 0 none), iM 11008 m11000_c1.2.2.2.2.2.2.1.2.2.1, iM 11009 m11000_c1.2.2.2.2.2.2.1.2.2.2.1, eM 11010 (.a (.cell 42010) 0 0 none), iM 11011 m11000_c1.2.2.2.2.2.2.2.1.1, iM 11012 m11000_c1.2.2.2.2.2.2.2.1.2.1, eM 11013 (.a (.cell 42013) 0 0 none), eM 11014 (.a (.cell 42014) 0 0 none), eM 11015 (vB m11000_c1.2.2.2.2.2.2.2.2.1), eM 11016 (vB m11000_c1.2.2.2.2.2.2.2.2.2.1), eM 11017 (vB m11000_c1.2.2.2.2.2.2.2.2.2.2.1), iM 11018 m11000_c1.2.2.2.2.2.2.2.2.2.2.2.1, iM 11019 m11000_c1.2.2.2.2.2.2.2.2.2.2.2.2.1, iM 11020 m11000_c1.2.2.2.2.2.2.2.2.2.2.2.2.2.1, iM 11021 m11000_c1.2.2.2.2.2.2.2.2.2.2.2.2.2.2.1, iM 11022 m11000_c1.2.2.2.2.2.2.2.2.2.2.2.2.2.2.2.1, iM 11023 m11000_c1.2.2.2.2.2.2.2.2.2.2.2.2.2.2.2.2, eM 20000 (.s .own seg []), eM 42007 (.s .own (.int .u8) m11000_c1.2.2.2.2.2.2.1.2.1), eM 42010 (.s .own rng m11000_c1.2.2.2.2.2.2.1.2.2.2.2), eM 42013 (.s .own (.int .u8) m11000_c1.2.2.2.2.2.2.2.1.2.2.1), eM 42014 (.s .own erl m11000_c1.2.2.2.2.2.2.2.1.2.2.2)]))⟩
def F9_s2 (v : (den fin)) (w : Int) (p : (den seg)) (q : Int) (m11000_c2 : (den fin)) : St := ⟨dz 3 ((.one (vI q)) :: (.one (.ptr (.cell 4000) 24 0)) :: (.one .d) :: (.one (.ptr (.cell 6000) 11 0)) :: (.one .d) :: (.one (.ptr (.cell 8000) 24 0)) :: (.one .d) :: (.one .d) :: (.one (.ptr (.cell 11000) 24 0)) :: dz 288 []), rowE 4000 (lsM (.pair mI (.pair mI m_9)) v) (rowE 6000 (lsM m_24 p) (rowE 8000 (lsM m_16 (0, 0, 0, 0, 0, 0, (0, [], 0, 0, []), (0, 0, [], []), false, false, false, 0, 0, 0, 0, 0, 0)) [iM 11000 m11000_c2.1, iM 11001 m11000_c2.2.1, iM 11002 m11000_c2.2.2.1, iM 11003 m11000_c2.2.2.2.1, iM 11004 m11000_c2.2.2.2.2.1, iM 11005 m11000_c2.2.2.2.2.2.1, iM 11006 m11000_c2.2.2.2.2.2.2.1.1, eM 11007 (.a (.cell 42007) 0 0 none), iM 11008 m11000_c2.2.2.2.2.2.2.1.2.2.1, iM 11009 m11000_c2.2.2.2.2.2.2.1.2.2.2.1, eM 11010 (.a (.cell 42010) 0 0 none), iM 11011 m11000_c2.2.2.2.2.2.2.2.1.1, iM 11012 m11000_c2.2.2.2.2.2.2.2.1.2.1, eM 11013 (.a (.cell 42013) 0 0 none), eM 11014 (.a (.cell 42014) 0 0 none), eM 11015 (vB m11000_c2.2.2.2.2.2.2.2.2.1), eM 11016 (vB m11000_c2.2.2.2.2.2.2.2.2.2.1), eM 11017 (vB m11000_c2.2.2.2.2.2.2.2.2.2.2.1), iM 11018 m11000_c2.2.2.2.2.2.2.2.2.2.2.2.1, iM 11019 m11000_c2.2.2.2.2.2.2.2.2.2.2.2.2.1, iM 11020 m11000_c2.2.2.2.2.2.2.2.2.2.2.2.2.2.1, iM 11021 m11000_c2.2.2.2.2.2.2.2.2.2.2.2.2.2.2.1, iM 11022 m11000_c2.2.2.2.2.2.2.2.2.2.2.2.2.2.2.2.1, iM 11023 m11000_c2.2.2.2.2.2.2.2.2.2.2.2.2.2.2.2.2, eM 42007 (.s .own (.int .u8) m11000_c2.2.2.2.2.2.2.1.2.1), eM 42010 (.s .own rng m11000_c2.2.2.2.2.2.2.1.2.2.2.2), eM 42013 (.s .own (.int .u8) m11000_c2.2.2.2.2.2.2.2.1.2.2.1), eM 42014 (.s .own erl m11000_c2.2.2.2.2.2.2.2.1.2.2.2)]))⟩
def F9_s3 (v : (den fin)) (w : Int) (p : (den seg)) (q : Int) (x15_c3 : Int) (x16_c3 : Bool) (m11000_c3 : (den fin)) : St := ⟨dz 3 ((.one (vI q)) :: (.one .d) :: (.one .d) :: (.one (.ptr (.cell 6000) 11 0)) :: (.one .d) :: (.one (.ptr (.cell 8000) 24 0)) :: (.one .d) :: (.one .d) :: (.one (.ptr (.cell 11000) 24 0)) :: dz 3 ((.one (vI x15_c3)) :: (.one (vB x16_c3)) :: dz 283 [])), rowE 6000 (lsM m_24 p) (rowE 8000 (lsM m_16 (0, 0, 0, 0, 0, 0, (0, [], 0, 0, []), (0, 0, [], []), false, false, false, 0, 0, 0, 0, 0, 0)) (rowE 11000 (lsM (.pair mI (.pair mI m_9)) m11000_c3) []))⟩
def F9_c3_j1 {β : Type} (k : Nat) (v : (den fin)) (w : Int) (p : (den seg)) (q : Int) (RET : (den fin) × L_seg → Option β) (b598 : (den fin) × L_seg) (x16_c3 : Bool) : Option β := (F52 k b598.1).bind fun b600 => (F51 k b598.1 (i64.wrap ((i64.wrap (b598.1.2.2.2.2.2.2.1.1 + b598.1.2.2.2.2.2.2.1.2.2.1)) + b600))).bind fun b601 => szc (b598.2.length) ([b601].length) 96 ((F48 k b598.1 q x16_c3).bind fun b602 => RET (b602, b598.2 ++ [b601]))
def F9_c3t {β : Type} (RET : (den fin) × L_seg → Option β) (k : Nat) (v : (den fin)) (w : Int) (p : (den seg)) (q : Int) (x15_c3 : Int) (x16_c3 : Bool) (m11000_c3 : (den fin)) : Option β := (F50 k m11000_c3).bind fun b598 => cond ((b598.2.length : Int) == 0) ((F55 k p).bind fun b599 => cond (decide (b599 > 0)) (F9_c3_j1 k v w p q RET b598 x16_c3) ((F56 k p.2.2.1 x15_c3).bind fun b603 => cond b603 (F9_c3_j1 k v w p q RET b598 x16_c3) ((F48 k b598.1 q x16_c3).bind fun b607 => RET (b607, b598.2)))) ((F48 k b598.1 q x16_c3).bind fun b608 => RET (b608, b598.2))
def F9_c3 {β : Type} (k : Nat) (v : (den fin)) (w : Int) (p : (den seg)) (q : Int) (x15_c3 : Int) (x16_c3 : Bool) (m11000_c3 : (den fin)) (RET : (den fin) × L_seg → Option β) : Option β := F9_c3t RET k v w p q x15_c3 x16_c3 m11000_c3
theorem F9_c3_b {β γ : Type} (k : Nat) (v : (den fin)) (w : Int) (p : (den seg)) (q : Int) (x15_c3 : Int) (x16_c3 : Bool) (m11000_c3 : (den fin)) (RET : (den fin) × L_seg → Option β) (g : β → Option γ) : (F9_c3 k v w p q x15_c3 x16_c3 m11000_c3 RET).bind g = F9_c3 k v w p q x15_c3 x16_c3 m11000_c3 (fun r => (RET r).bind g) := by
 simp only [F9_c3, F9_c3t, F9_c3_j1, u_fin, u_seg, z1, z2, z4]
theorem F9_c3_e {β : Type} (k : Nat) (v : (den fin)) (w : Int) (p : (den seg)) (q : Int) (x15_c3 : Int) (x16_c3 : Bool) (m11000_c3 : (den fin)) (K : KT β) : restC (F9_E k) (codeAt [1, 1, 1, 1, 1, 1, 1, 1, 1, 1, 1] (bodyOf Tryz.f9)) (F9_z k v w p q K) (F9_s3 v w p q x15_c3 x16_c3 m11000_c3) = F9_c3 k v w p q x15_c3 x16_c3 m11000_c3 (fun r => K (F9_O.put r)) := by kernel_rfl
def F9_c2t {β : Type} (RET : (den fin) × L_seg → Option β) (GT : Int → Bool → (den fin) → Option β) (k : Nat) (v : (den fin)) (w : Int) (p : (den seg)) (q : Int) (m11000_c2 : (den fin)) : Option β := (F47 k m11000_c2).bind fun b585 => cond p.2.2.2.2.2.2.1 ((F53 k m11000_c2 p).bind fun b586 => cond (v.1 != 4) ((F54 k b586.1 p).bind fun b587 => GT b585 true b587) ((F54 k b586.1 p).bind fun b588 => GT b585 b586.2 b588)) ((F54 k m11000_c2 p).bind fun b589 => GT b585 (v.1 != 4) b589)
def F9_c2 {β : Type} (k : Nat) (v : (den fin)) (w : Int) (p : (den seg)) (q : Int) (m11000_c2 : (den fin)) (RET : (den fin) × L_seg → Option β) : Option β := F9_c2t RET (fun y0 y1 y2 => F9_c3 k v w p q y0 y1 y2 RET) k v w p q m11000_c2
theorem F9_c2_b {β γ : Type} (k : Nat) (v : (den fin)) (w : Int) (p : (den seg)) (q : Int) (m11000_c2 : (den fin)) (RET : (den fin) × L_seg → Option β) (g : β → Option γ) : (F9_c2 k v w p q m11000_c2 RET).bind g = F9_c2 k v w p q m11000_c2 (fun r => (RET r).bind g) := by
 simp only [F9_c2, F9_c2t, u_fin, u_seg, z1, z2, z4, F9_c3_b]
theorem F9_c2_p {β : Type} (k : Nat) (v : (den fin)) (w : Int) (p : (den seg)) (q : Int) (m11000_c2 : (den fin)) (t : St → Option β) (K : KT β) : regS (F9_E k) (codeAt [1, 1, 1, 1, 1, 1, 1, 0] (bodyOf Tryz.f9)) (F9_s2 v w p q m11000_c2) (thenC (F9_E k) (codeAt [1, 1, 1, 1, 1, 1, 1, 1, 0] (bodyOf Tryz.f9)) 0 (thenC (F9_E k) (codeAt [1, 1, 1, 1, 1, 1, 1, 1, 1, 0] (bodyOf Tryz.f9)) 0 (thenC (F9_E k) (codeAt [1, 1, 1, 1, 1, 1, 1, 1, 1, 1, 0] (bodyOf Tryz.f9)) 0 (thenK (F9_E k) F9_k3 t (F9_z k v w p q K))))) =
  F9_c2t (fun r => K (F9_O.put r)) (fun y0 y1 y2 => t (F9_s3 v w p q y0 y1 y2)) k v w p q m11000_c2 := by kernel_rfl
theorem F9_c2_q : (codeAt [1, 1, 1, 1, 1, 1, 1] (bodyOf Tryz.f9)) = (.seq (codeAt [1, 1, 1, 1, 1, 1, 1, 0] (bodyOf Tryz.f9)) (.seq (codeAt [1, 1, 1, 1, 1, 1, 1, 1, 0] (bodyOf Tryz.f9)) (.seq (codeAt [1, 1, 1, 1, 1, 1, 1, 1, 1, 0] (bodyOf Tryz.f9)) (.seq (codeAt [1, 1, 1, 1, 1, 1, 1, 1, 1, 1, 0] (bodyOf Tryz.f9)) (codeAt [1, 1, 1, 1, 1, 1, 1, 1, 1, 1, 1] (bodyOf Tryz.f9)))))) := by kernel_rfl
theorem F9_c2_e {β : Type} (k : Nat) (v : (den fin)) (w : Int) (p : (den seg)) (q : Int) (m11000_c2 : (den fin)) (K : KT β) : restC (F9_E k) (codeAt [1, 1, 1, 1, 1, 1, 1] (bodyOf Tryz.f9)) (F9_z k v w p q K) (F9_s2 v w p q m11000_c2) = F9_c2 k v w p q m11000_c2 (fun r => K (F9_O.put r)) := by
 rw [F9_c2_q, restC_seq, thenC_seq, thenC_seq, thenC_seq, thenC_kill (c := (codeAt [1, 1, 1, 1, 1, 1, 1, 1, 1, 1, 1] (bodyOf Tryz.f9))) (i := 47) (h := F9_k3) (by kernel_rfl) rfl, F9_c2_p]
 simp only [F9_c3_e, F9_c2]
def F9_c1_j1 {β : Type} (k : Nat) (v : (den fin)) (w : Int) (p : (den seg)) (q : Int) (RET : (den fin) × L_seg → Option β) (GT : (den fin) → Option β) (m11000_c1 : (den fin)) : Option β := cond (decide (v.1 ≥ 3)) ((F47 k v).bind fun b547 => (F46 k b547).bind fun b548 => cond (p.2.2.1 == b548) (RET ((5, m11000_c1.2.1, m11000_c1.2.2.1, m11000_c1.2.2.2.1, m11000_c1.2.2.2.2.1, m11000_c1.2.2.2.2.2.1, m11000_c1.2.2.2.2.2.2.1, m11000_c1.2.2.2.2.2.2.2.1, m11000_c1.2.2.2.2.2.2.2.2.1, m11000_c1.2.2.2.2.2.2.2.2.2.1, m11000_c1.2.2.2.2.2.2.2.2.2.2.1, m11000_c1.2.2.2.2.2.2.2.2.2.2.2.1, 0, m11000_c1.2.2.2.2.2.2.2.2.2.2.2.2.2), [])) (RET (m11000_c1, []))) (RET (m11000_c1, []))
def F9_c1_j2 {β : Type} (k : Nat) (v : (den fin)) (w : Int) (p : (den seg)) (q : Int) (RET : (den fin) × L_seg → Option β) (GT : (den fin) → Option β) (m11000_c1 : (den fin)) : Option β := cond (!p.2.2.2.2.2.1) (RET (m11000_c1, [])) (cond p.2.2.2.2.2.2.1 (RET (m11000_c1, [])) ((F48 k (3, m11000_c1.2.1, m11000_c1.2.2.1, w, p.1, m11000_c1.2.2.2.2.2.1, m11000_c1.2.2.2.2.2.2.1, (i64.wrap (p.2.2.1 + 1), m11000_c1.2.2.2.2.2.2.2.1.2.1, m11000_c1.2.2.2.2.2.2.2.1.2.2.1, []), m11000_c1.2.2.2.2.2.2.2.2) q true).bind fun b551 => (F49 k (3, m11000_c1.2.1, m11000_c1.2.2.1, w, p.1, m11000_c1.2.2.2.2.2.1, m11000_c1.2.2.2.2.2.2.1, (i64.wrap (p.2.2.1 + 1), m11000_c1.2.2.2.2.2.2.2.1.2.1, m11000_c1.2.2.2.2.2.2.2.1.2.2.1, []), m11000_c1.2.2.2.2.2.2.2.2)).bind fun b552 => RET (b551, [b552])))
def F9_c1_j4 {β : Type} (k : Nat) (v : (den fin)) (w : Int) (p : (den seg)) (q : Int) (RET : (den fin) × L_seg → Option β) (GT : (den fin) → Option β) (m11000_c1 : (den fin)) : Option β := cond p.2.2.2.2.2.1 ((F46 k (i64.wrap (v.2.2.2.2.2.2.2.1.1 - 1))).bind fun b560 => cond (p.2.2.1 == b560) ((F49 k m11000_c1).bind fun b561 => RET (m11000_c1, [b561])) (RET (m11000_c1, []))) (RET (m11000_c1, []))
def F9_c1_j3 {β : Type} (k : Nat) (v : (den fin)) (w : Int) (p : (den seg)) (q : Int) (RET : (den fin) × L_seg → Option β) (GT : (den fin) → Option β) (m11000_c1 : (den fin)) (b546 : Int) : Option β := cond (v.1 == 2) (cond (!p.2.2.2.2.2.1) (RET (m11000_c1, [])) (cond (!(p.2.2.2.1 == b546)) (RET (m11000_c1, [])) ((F50 k (4, m11000_c1.2.1, m11000_c1.2.2.1, m11000_c1.2.2.2.1, m11000_c1.2.2.2.2.1, m11000_c1.2.2.2.2.2.1, (m11000_c1.2.2.2.2.2.2.1.1, m11000_c1.2.2.2.2.2.2.1.2.1, m11000_c1.2.2.2.2.2.2.1.2.2.1, p.2.2.2.2.1, m11000_c1.2.2.2.2.2.2.1.2.2.2.2), (i64.wrap (p.2.2.1 + 1), m11000_c1.2.2.2.2.2.2.2.1.2.1, m11000_c1.2.2.2.2.2.2.2.1.2.2.1, []), m11000_c1.2.2.2.2.2.2.2.2)).bind fun b555 => cond ((b555.2.length : Int) == 0) ((F52 k b555.1).bind fun b556 => (F51 k b555.1 (i64.wrap ((i64.wrap (b555.1.2.2.2.2.2.2.1.1 + b555.1.2.2.2.2.2.2.1.2.2.1)) + b556))).bind fun b557 => szc (b555.2.length) ([b557].length) 96 ((F48 k b555.1 q true).bind fun b558 => RET (b558, b555.2 ++ [b557]))) ((F48 k b555.1 q true).bind fun b559 => RET (b559, b555.2))))) (cond (v.1 == 3) (cond (!(p.2.2.2.1 == b546)) (F9_c1_j4 k v w p q RET GT m11000_c1) (GT (4, m11000_c1.2.1, m11000_c1.2.2.1, m11000_c1.2.2.2.1, m11000_c1.2.2.2.2.1, m11000_c1.2.2.2.2.2.1, (m11000_c1.2.2.2.2.2.2.1.1, m11000_c1.2.2.2.2.2.2.1.2.1, m11000_c1.2.2.2.2.2.2.1.2.2.1, p.2.2.2.2.1, m11000_c1.2.2.2.2.2.2.1.2.2.2.2), m11000_c1.2.2.2.2.2.2.2))) (GT m11000_c1))
def F9_c1_j5 {β : Type} (k : Nat) (v : (den fin)) (w : Int) (p : (den seg)) (q : Int) (RET : (den fin) × L_seg → Option β) (GT : (den fin) → Option β) (m11000_c1 : (den fin)) : Option β := cond (v.1 == 2) (cond (!p.2.2.2.2.2.1) (RET (m11000_c1, [])) (RET (m11000_c1, []))) (cond (v.1 == 3) (F9_c1_j4 k v w p q RET GT m11000_c1) (GT m11000_c1))
def F9_c1t {β : Type} (RET : (den fin) × L_seg → Option β) (GT : (den fin) → Option β) (k : Nat) (v : (den fin)) (w : Int) (p : (den seg)) (q : Int) (m11000_c1 : (den fin)) : Option β := cond p.2.2.2.2.2.2.1 ((F46 k (i64.wrap (v.2.2.2.2.2.1 + 1))).bind fun b546 => cond p.2.2.2.2.2.2.2.2.1 (cond (v.1 == 2) (cond (p.2.2.2.1 == b546) (RET ((5, m11000_c1.2.1, m11000_c1.2.2.1, m11000_c1.2.2.2.1, m11000_c1.2.2.2.2.1, m11000_c1.2.2.2.2.2.1, m11000_c1.2.2.2.2.2.2.1, m11000_c1.2.2.2.2.2.2.2.1, m11000_c1.2.2.2.2.2.2.2.2.1, m11000_c1.2.2.2.2.2.2.2.2.2.1, m11000_c1.2.2.2.2.2.2.2.2.2.2.1, m11000_c1.2.2.2.2.2.2.2.2.2.2.2.1, 0, m11000_c1.2.2.2.2.2.2.2.2.2.2.2.2.2), [])) (F9_c1_j1 k v w p q RET GT m11000_c1)) (F9_c1_j1 k v w p q RET GT m11000_c1)) (cond (v.1 == 1) (F9_c1_j2 k v w p q RET GT m11000_c1) (cond (v.1 == 2) (cond (!p.2.2.2.2.2.2.1) (F9_c1_j2 k v w p q RET GT m11000_c1) (F9_c1_j3 k v w p q RET GT m11000_c1 b546)) (F9_c1_j3 k v w p q RET GT m11000_c1 b546)))) (cond p.2.2.2.2.2.2.2.2.1 (cond (v.1 == 2) (F9_c1_j1 k v w p q RET GT m11000_c1) (F9_c1_j1 k v w p q RET GT m11000_c1)) (cond (v.1 == 1) (F9_c1_j2 k v w p q RET GT m11000_c1) (cond (v.1 == 2) (cond (!p.2.2.2.2.2.2.1) (F9_c1_j2 k v w p q RET GT m11000_c1) (F9_c1_j5 k v w p q RET GT m11000_c1)) (F9_c1_j5 k v w p q RET GT m11000_c1))))
def F9_c1 {β : Type} (k : Nat) (v : (den fin)) (w : Int) (p : (den seg)) (q : Int) (m11000_c1 : (den fin)) (RET : (den fin) × L_seg → Option β) : Option β := F9_c1t RET (fun y0 => F9_c2 k v w p q y0 RET) k v w p q m11000_c1
theorem F9_c1_b {β γ : Type} (k : Nat) (v : (den fin)) (w : Int) (p : (den seg)) (q : Int) (m11000_c1 : (den fin)) (RET : (den fin) × L_seg → Option β) (g : β → Option γ) : (F9_c1 k v w p q m11000_c1 RET).bind g = F9_c1 k v w p q m11000_c1 (fun r => (RET r).bind g) := by
 simp only [F9_c1, F9_c1t, F9_c1_j1, F9_c1_j2, F9_c1_j4, F9_c1_j3, F9_c1_j5, u_fin, u_seg, z1, z2, z4, F9_c2_b]
theorem F9_c1_p {β : Type} (k : Nat) (v : (den fin)) (w : Int) (p : (den seg)) (q : Int) (m11000_c1 : (den fin)) (t : St → Option β) (K : KT β) : regS (F9_E k) (codeAt [1, 1, 1, 1, 1, 0] (bodyOf Tryz.f9)) (F9_s1 v w p q m11000_c1) (thenC (F9_E k) (codeAt [1, 1, 1, 1, 1, 1, 0] (bodyOf Tryz.f9)) 0 (thenK (F9_E k) F9_k2 t (F9_z k v w p q K))) =
  F9_c1t (fun r => K (F9_O.put r)) (fun y0 => t (F9_s2 v w p q y0)) k v w p q m11000_c1 := by kernel_rfl
theorem F9_c1_q : (codeAt [1, 1, 1, 1, 1] (bodyOf Tryz.f9)) = (.seq (codeAt [1, 1, 1, 1, 1, 0] (bodyOf Tryz.f9)) (.seq (codeAt [1, 1, 1, 1, 1, 1, 0] (bodyOf Tryz.f9)) (codeAt [1, 1, 1, 1, 1, 1, 1] (bodyOf Tryz.f9)))) := by kernel_rfl
theorem F9_c1_e {β : Type} (k : Nat) (v : (den fin)) (w : Int) (p : (den seg)) (q : Int) (m11000_c1 : (den fin)) (K : KT β) : restC (F9_E k) (codeAt [1, 1, 1, 1, 1] (bodyOf Tryz.f9)) (F9_z k v w p q K) (F9_s1 v w p q m11000_c1) = F9_c1 k v w p q m11000_c1 (fun r => K (F9_O.put r)) := by
 rw [F9_c1_q, restC_seq, thenC_seq, thenC_kill (c := (codeAt [1, 1, 1, 1, 1, 1, 1] (bodyOf Tryz.f9))) (i := 40) (h := F9_k2) (by kernel_rfl) rfl, F9_c1_p]
 simp only [F9_c2_e, F9_c1]
def F9_Tt {β : Type} (RET : (den fin) × L_seg → Option β) (GT : (den fin) → Option β) (k : Nat) (v : (den fin)) (w : Int) (p : (den seg)) (q : Int) : Option β := (F42 k v).bind fun b541 => cond (!b541) (RET ((0, 0, 0, 0, 0, 0, (0, [], 0, 0, []), (0, 0, [], []), false, false, false, 0, 0, 0, 0, 0, 0), [])) ((F43 k p).bind fun b542 => cond (!b542) (RET ((0, 0, 0, 0, 0, 0, (0, [], 0, 0, []), (0, 0, [], []), false, false, false, 0, 0, 0, 0, 0, 0), [])) ((F44 k w 0 65535).bind fun b543 => cond (!b543) (RET ((0, 0, 0, 0, 0, 0, (0, [], 0, 0, []), (0, 0, [], []), false, false, false, 0, 0, 0, 0, 0, 0), [])) ((F44 k q 0 900000).bind fun b544 => cond (!b544) (RET ((0, 0, 0, 0, 0, 0, (0, [], 0, 0, []), (0, 0, [], []), false, false, false, 0, 0, 0, 0, 0, 0), [])) ((F45 k v).bind fun b545 => cond (p.2.1 != v.2.2.1) (RET (b545, [])) (cond (v.1 == 0) (RET (b545, [])) (cond (v.1 == 5) (RET (b545, [])) (cond (v.1 != 1) (cond (w != v.2.2.2.1) (RET (b545, [])) (cond (p.1 != v.2.2.2.2.1) (RET (b545, [])) (GT b545))) (GT b545))))))))
def F9_T {β : Type} (k : Nat) (v : (den fin)) (w : Int) (p : (den seg)) (q : Int) (RET : (den fin) × L_seg → Option β) : Option β := F9_Tt RET (fun y0 => F9_c1 k v w p q y0 RET) k v w p q
theorem F9_T_b {β γ : Type} (k : Nat) (v : (den fin)) (w : Int) (p : (den seg)) (q : Int) (RET : (den fin) × L_seg → Option β) (g : β → Option γ) : (F9_T k v w p q RET).bind g = F9_T k v w p q (fun r => (RET r).bind g) := by
 simp only [F9_T, F9_Tt, u_fin, u_seg, z1, z2, z4, F9_c1_b]
theorem F9_T_p {β : Type} (k : Nat) (v : (den fin)) (w : Int) (p : (den seg)) (q : Int) (t : St → Option β) (K : KT β) : evalC (F9_E k) (codeAt [0] (bodyOf Tryz.f9)) 0 ⟨(.agg (lsM (.pair mI (.pair mI m_9)) v)) :: (.one (vI w)) :: (.agg (lsM m_24 p)) :: (.one (vI q)) :: uz 296 [], []⟩ (thenC (F9_E k) (codeAt [1, 0] (bodyOf Tryz.f9)) 0 (thenC (F9_E k) (codeAt [1, 1, 0] (bodyOf Tryz.f9)) 0 (thenC (F9_E k) (codeAt [1, 1, 1, 0] (bodyOf Tryz.f9)) 0 (thenC (F9_E k) (codeAt [1, 1, 1, 1, 0] (bodyOf Tryz.f9)) 0 (thenK (F9_E k) F9_k1 t (F9_z k v w p q K)))))) =
  F9_Tt (fun r => K (F9_O.put r)) (fun y0 => t (F9_s1 v w p q y0)) k v w p q := by kernel_rfl
theorem F9_T_q : (codeAt [] (bodyOf Tryz.f9)) = (.seq (codeAt [0] (bodyOf Tryz.f9)) (.seq (codeAt [1, 0] (bodyOf Tryz.f9)) (.seq (codeAt [1, 1, 0] (bodyOf Tryz.f9)) (.seq (codeAt [1, 1, 1, 0] (bodyOf Tryz.f9)) (.seq (codeAt [1, 1, 1, 1, 0] (bodyOf Tryz.f9)) (codeAt [1, 1, 1, 1, 1] (bodyOf Tryz.f9))))))) := by kernel_rfl
theorem F9_T_e {β : Type} (k : Nat) (v : (den fin)) (w : Int) (p : (den seg)) (q : Int) (K : KT β) : evalC (F9_E k) (codeAt [] (bodyOf Tryz.f9)) 0 ⟨(.agg (lsM (.pair mI (.pair mI m_9)) v)) :: (.one (vI w)) :: (.agg (lsM m_24 p)) :: (.one (vI q)) :: uz 296 [], []⟩ (F9_z k v w p q K) = F9_T k v w p q (fun r => K (F9_O.put r)) := by
 rw [F9_T_q, evalC_seq, thenC_seq, thenC_seq, thenC_seq, thenC_seq, thenC_kill (c := (codeAt [1, 1, 1, 1, 1] (bodyOf Tryz.f9))) (i := 7) (h := F9_k1) (by kernel_rfl) rfl, F9_T_p]
 simp only [F9_c1_e, F9_T]
def F9 (k : Nat) (v : (den fin)) (w : Int) (p : (den seg)) (q : Int) : Option ((den fin) × L_seg) := F9_T k v w p q some
theorem F9_ev {β : Type} (k : Nat) (v : (den fin)) (w : Int) (p : (den seg)) (q : Int) (K : KT β) : evalF (F9_E k) Tryz.f9 (PsT.put F9_A (v, w, p, q, ())) K = (F9 k v w p q).bind fun r => K (F9_O.put r) := by
 refine Eq.trans (b := evalC (F9_E k) (codeAt [] (bodyOf Tryz.f9)) 0 ⟨(.agg (lsM (.pair mI (.pair mI m_9)) v)) :: (.one (vI w)) :: (.agg (lsM m_24 p)) :: (.one (vI q)) :: uz 296 [], []⟩ (F9_z k v w p q K)) (by kernel_rfl) ?_
 rw [F9_T_e, F9, F9_T_b]
 simp only [z3]
def F9_d (k : Nat) : FD := ⟨9, F9_A, F9_O, F9 k⟩
theorem F9_q (k : Nat) : (F9_d k).Ok Tryz.prog := ⟨fun x => con_of (envOkR F9_rh (tabsOk (.c (F42_q k) (.c (F43_q k) (.c (F44_q k) (.c (F45_q k) (.c (F46_q k) (.c (F47_q k) (.c (F48_q k) (.c (F49_q k) (.c (F50_q k) (.c (F52_q k) (.c (F51_q k) (.c (F53_q k) (.c (F54_q k) (.c (F55_q k) (.c (F56_q k) .n)))))))))))))))) _ _ _ _) mixed Tryz.func9 rfl rfl (F9_ev k _ _ _ _ some), .of (by kernel_rfl)⟩
def F81_h : Nat → Hint
 | 0 => ⟨pl 0 1 (pl 2 2 (pl 6 2 ((8, .own .sown seg []) :: (9, .own .sown seg []) :: (pl 11 1 [])))), pl 0 2 (pl 2000 24 (pl 3000 24 (pl 6000 7 ((6007, .ro (.int .u8)) :: (pl 6008 2 ((6010, .ro rng) :: (pl 6011 2 ((6013, .ro (.int .u8)) :: (6014, .ro erl) :: (pl 6015 9 (pl 7000 7 ((7007, .ro (.int .u8)) :: (pl 7008 2 ((7010, .ro rng) :: (pl 7011 2 ((7013, .ro (.int .u8)) :: (7014, .ro erl) :: (pl 7015 9 (pl 33007 1 (pl 33010 1 (pl 33013 2 [])))))))))))))))))))⟩
 | _ => ⟨[], []⟩
abbrev F81_E (k : Nat) : Env := { env (tabs [F82_d k, F134_d k, F135_d k, F136_d k, F95_d k, F137_d k, F138_d k, F139_d k, F140_d k, F9_d k]) F81_h .own [(false, 0), (false, 1)] k with frz := [169, 69] }
abbrev F81_R : Type := (den fin) × (den fin) × L_seg × L_seg × (L_u8 × Int)
abbrev F81_A : List PA := [.p m_1]
abbrev F81_O : RO := ⟨[.a, .a, .v, .v], [.pair mI (.pair mI m_9), .pair mI (.pair mI m_9), .sl .sown seg, .sl .sown seg, m_1]⟩
noncomputable def F81_z {β : Type} (k : Nat) (v : (L_u8 × Int)) (K : KT β) : Ex → St → Option β := endC (F81_E k) Tryz.f81 (PsT.put F81_A (v, ())) K
def F81_s0 (v : (L_u8 × Int)) (x11_0 : Int) (m0_0 : (L_u8 × Int)) (m6000_0 m7000_0 : (den fin)) (m8900_0 m9900_0 : L_seg) : St := ⟨(.one (.ptr (.cell 0) 2 0)) :: (.one .d) :: (.one (.ptr (.cell 2000) 24 0)) :: (.one (.ptr (.cell 3000) 24 0)) :: (.one .d) :: (.one .d) :: (.one (.ptr (.cell 6000) 24 0)) :: (.one (.ptr (.cell 7000) 24 0)) :: (.one (.a (.cell 8900) 0 0 none)) :: (.one (.a (.cell 9900) 0 0 none)) :: (.one .d) :: (.one (vI x11_0)) :: dz 171 [], rowE 0 (lsM m_1 m0_0) (rowE 2000 (lsM m_16 (0, 0, 0, 0, 0, 0, (0, [], 0, 0, []), (0, 0, [], []), false, false, false, 0, 0, 0, 0, 0, 0)) (rowE 3000 (lsM m_16 (0, 0, 0, 0, 0, 0, (0, [], 0, 0, []), (0, 0, [], []), false, false, false, 0, 0, 0, 0, 0, 0)) (rowE 6000 (lsM (.pair mI (.pair mI m_9)) m6000_0) (rowE 7000 (lsM (.pair mI (.pair mI m_9)) m7000_0) [eM 33007 .d, eM 33010 .d, eM 33013 .d, eM 33014 .d, eM 8900 (.s .sown seg m8900_0), eM 9900 (.s .sown seg m9900_0)]))))⟩
noncomputable def F81_l0_g {β : Type} (k : Nat) (v : (L_u8 × Int)) (K : KT β) (n : Nat) (x11_0 : Int) (m0_0 : (L_u8 × Int)) (m6000_0 m7000_0 : (den fin)) (m8900_0 m9900_0 : L_seg) : Option β := loopG (F81_E k) Tryz.f81 [1, 1, 1, 1, 1, 1, 1, 1, 1, 0, 1, 0] 0 (kontAt (F81_E k) [1, 1, 1, 1, 1, 1, 1, 1, 1, 0, 1, 0] (bodyOf Tryz.f81) 0 (F81_z k v K)) n (F81_s0 v x11_0 m0_0 m6000_0 m7000_0 m8900_0 m9900_0)
def F81_l0_j1 {β : Type} (k : Nat) (v : (L_u8 × Int)) (NX : Int → (L_u8 × Int) → (den fin) → (den fin) → L_seg → L_seg → Option β) (RET : F81_R → Option β) (m8900_0 : L_seg) (m6000_0 : (den fin)) (x11_0 : Int) (b10 : Int × (L_u8 × Int)) (m9900_0 : L_seg) (b11 : Int × (L_u8 × Int)) (m7000_0 : (den fin)) : Option β := cond (decide ((m8900_0.length : Int) > 0)) (cond (decide (0 < (m8900_0.length : Int))) ((F9 k m6000_0 2 (atI m8900_0 0) (i64.wrap ((i64.wrap (30 * (i64.wrap (30 - x11_0)))) + b10.1))).bind fun b24 => szc (m9900_0.length) (b24.2.length) 96 (cond (decide (0 ≤ 1) && decide (1 ≤ (m8900_0.length : Int))) (NX (i64.wrap (x11_0 - 1)) b11.2 b24.1 m7000_0 ((m8900_0.take (((m8900_0.length : Int)).toNat)).drop 1) (m9900_0 ++ b24.2)) none)) none) (NX (i64.wrap (x11_0 - 1)) b11.2 m6000_0 m7000_0 m8900_0 m9900_0)
def F81_l0_T {β : Type} (NX : Int → (L_u8 × Int) → (den fin) → (den fin) → L_seg → L_seg → Option β) (RET : F81_R → Option β) (k : Nat) (v : (L_u8 × Int)) (x11_0 : Int) (m0_0 : (L_u8 × Int)) (m6000_0 m7000_0 : (den fin)) (m8900_0 m9900_0 : L_seg) : Option β := cond (decide (x11_0 > 0)) ((F82 k m0_0 9).bind fun b10 => (F82 k b10.2 9).bind fun b11 => cond (b11.1 == 0) ((F82 k b11.2 9).bind fun b12 => (F95 k b12.2 b12.1).bind fun b13 => (F137 k m6000_0 b13.1 (i64.wrap ((i64.wrap (30 * (i64.wrap (30 - x11_0)))) + b10.1))).bind fun b14 => szc (m9900_0.length) (b14.2.2.length) 96 (NX (i64.wrap (x11_0 - 1)) b13.2 b14.1 m7000_0 m8900_0 (m9900_0 ++ b14.2.2))) (cond (b11.1 == 1) ((F82 k b11.2 9).bind fun b15 => (F95 k b15.2 b15.1).bind fun b16 => (F137 k m7000_0 b16.1 (i64.wrap ((i64.wrap (30 * (i64.wrap (30 - x11_0)))) + b10.1))).bind fun b17 => szc (m8900_0.length) (b17.2.2.length) 96 (NX (i64.wrap (x11_0 - 1)) b16.2 m6000_0 b17.1 (m8900_0 ++ b17.2.2) m9900_0)) (cond (b11.1 == 2) ((F82 k b11.2 9).bind fun b18 => (F138 k m7000_0 b18.1 (i64.wrap ((i64.wrap (30 * (i64.wrap (30 - x11_0)))) + b10.1))).bind fun b19 => szc (m8900_0.length) (b19.2.2.length) 96 (NX (i64.wrap (x11_0 - 1)) b18.2 m6000_0 b19.1 (m8900_0 ++ b19.2.2) m9900_0)) (cond (b11.1 == 3) ((F139 k m6000_0 (i64.wrap ((i64.wrap (30 * (i64.wrap (30 - x11_0)))) + b10.1))).bind fun b20 => szc (m9900_0.length) (b20.2.length) 96 ((F139 k m7000_0 (i64.wrap ((i64.wrap (30 * (i64.wrap (30 - x11_0)))) + b10.1))).bind fun b21 => szc (m8900_0.length) (b21.2.length) 96 (NX (i64.wrap (x11_0 - 1)) b11.2 b20.1 b21.1 (m8900_0 ++ b21.2) (m9900_0 ++ b20.2)))) (cond (b11.1 == 4) ((F82 k b11.2 3).bind fun b22 => cond (b22.1 == 0) ((F140 k m6000_0 (i64.wrap ((i64.wrap (30 * (i64.wrap (30 - x11_0)))) + b10.1))).bind fun b23 => szc (m9900_0.length) (b23.2.length) 96 (NX (i64.wrap (x11_0 - 1)) b22.2 b23.1 m7000_0 m8900_0 (m9900_0 ++ b23.2))) (NX (i64.wrap (x11_0 - 1)) b22.2 m6000_0 m7000_0 m8900_0 m9900_0)) (cond (b11.1 == 5) (F81_l0_j1 k v NX RET m8900_0 m6000_0 x11_0 b10 m9900_0 b11 m7000_0) (cond (b11.1 == 6) (F81_l0_j1 k v NX RET m8900_0 m6000_0 x11_0 b10 m9900_0 b11 m7000_0) (cond (decide ((m9900_0.length : Int) > 0)) (cond (decide (0 < (m9900_0.length : Int))) ((F9 k m7000_0 1 (atI m9900_0 0) (i64.wrap ((i64.wrap (30 * (i64.wrap (30 - x11_0)))) + b10.1))).bind fun b26 => szc (m8900_0.length) (b26.2.length) 96 (cond (decide (0 ≤ 1) && decide (1 ≤ (m9900_0.length : Int))) (NX (i64.wrap (x11_0 - 1)) b11.2 m6000_0 b26.1 (m8900_0 ++ b26.2) ((m9900_0.take (((m9900_0.length : Int)).toNat)).drop 1)) none)) none) (NX (i64.wrap (x11_0 - 1)) b11.2 m6000_0 m7000_0 m8900_0 m9900_0))))))))) (RET (m6000_0, m7000_0, m8900_0, m9900_0, m0_0))
def F81_l0 (k : Nat) (v : (L_u8 × Int)) : Nat → Int → (L_u8 × Int) → (den fin) → (den fin) → L_seg → L_seg → Option (F81_R)
 | 0, _, _, _, _, _, _ => none
 | n + 1, x11_0, m0_0, m6000_0, m7000_0, m8900_0, m9900_0 => F81_l0_T (F81_l0 k v n) some k v x11_0 m0_0 m6000_0 m7000_0 m8900_0 m9900_0
theorem F81_l0_lp {β : Type} (k : Nat) (v : (L_u8 × Int)) (K : KT β) (n : Nat) : ∀ (x11_0 : Int) (m0_0 : (L_u8 × Int)) (m6000_0 m7000_0 : (den fin)) (m8900_0 m9900_0 : L_seg), F81_l0_g k v K n x11_0 m0_0 m6000_0 m7000_0 m8900_0 m9900_0 =
  (F81_l0 k v n x11_0 m0_0 m6000_0 m7000_0 m8900_0 m9900_0).bind fun r => K (F81_O.put r) := by
 induction n with
 | zero => intros; rfl
 | succ n ih =>
  intro x11_0 m0_0 m6000_0 m7000_0 m8900_0 m9900_0
  refine Eq.trans (b := F81_l0_T (F81_l0_g k v K n) (fun r => K (F81_O.put r)) k v x11_0 m0_0 m6000_0 m7000_0 m8900_0 m9900_0) (by kernel_rfl) ?_
  rw [F81_l0]
  simp only [F81_l0_T, F81_l0_j1, z1, z2, z3, z4, z5, u_0, ih]
def F81_T {β : Type} (LP0 : Int → (L_u8 × Int) → (den fin) → (den fin) → L_seg → L_seg → Option β) (k : Nat) (v : (L_u8 × Int)) : Option β := (F82 k v 3).bind fun b1 => ixc b1.1 [5, 65530, 32760] ((F82 k b1.2 16).bind fun b2 => (F134 k 1 7 (atI (t := (.int .i64)) [5, 65530, 32760] b1.1) (i64.wrap (4 + b2.1))).bind fun b3 => (F82 k b2.2 3).bind fun b4 => ixc b4.1 [100, 65534, 0] ((F82 k b4.2 16).bind fun b5 => (F134 k 2 9 (atI (t := (.int .i64)) [100, 65534, 0] b4.1) (i64.wrap (4 + b5.1))).bind fun b6 => (F135 k b6).bind fun b7 => (F136 k b3 2 9 0).bind fun b8 => szc (([] : L_seg).length) (b8.2.length) 96 ((F82 k b5.2 26).bind fun b9 => LP0 (i64.wrap (3 + b9.1)) b9.2 b8.1 b7.1 [] ([] ++ b8.2))))
def F81 (k : Nat) (v : (L_u8 × Int)) : Option (F81_R) := F81_T (F81_l0 k v k) k v
theorem F81_ev {β : Type} (k : Nat) (v : (L_u8 × Int)) (K : KT β) : evalF (F81_E k) Tryz.f81 (PsT.put F81_A (v, ())) K = (F81 k v).bind fun r => K (F81_O.put r) :=
 Eq.trans (b := F81_T (F81_l0_g k v K k) k v) (by kernel_rfl) (by simp only [F81, F81_T, z1, z2, z3, z4, z5, u_0, F81_l0_lp])
def F81_d (k : Nat) : FD := ⟨81, F81_A, F81_O, F81 k⟩
theorem F81_q (k : Nat) : (F81_d k).Ok Tryz.prog := ⟨fun x => con_of (envOkF [169, 69] (tabsOk (.c (F82_q k) (.c (F134_q k) (.c (F135_q k) (.c (F136_q k) (.c (F95_q k) (.c (F137_q k) (.c (F138_q k) (.c (F139_q k) (.c (F140_q k) (.c (F9_q k) .n))))))))))) _ _ _ _) mixed Tryz.func81 rfl rfl (F81_ev k _ some), .of (by kernel_rfl)⟩
abbrev F142_E (k : Nat) : Env := env (tabs [F82_d k]) noHint .own [(false, 0), (false, 1)] k
abbrev F142_A : List PA := [.p m_1, .one mI]
abbrev F142_O : RO := ⟨[.v], [mB, m_1]⟩
def F142_T {β : Type} (RET : (Bool × (L_u8 × Int)) → Option β) (k : Nat) (v : (L_u8 × Int)) (w : Int) : Option β := cond (decide (w > 0)) ((F82 k v w).bind fun b1 => RET ((b1.1 == (i64.wrap (w - 1))), b1.2)) (RET (false, v))
def F142 := F142_T (β := Bool × (L_u8 × Int)) some
theorem F142_ev {β : Type} (k : Nat) (v : (L_u8 × Int)) (w : Int) (K : KT β) : evalF (F142_E k) Tryz.f142 (PsT.put F142_A (v, w, ())) K = (F142 k v w).bind fun r => K (F142_O.put r) :=
 Eq.trans (b := F142_T (fun r => K (F142_O.put r)) k v w) (by kernel_rfl) (by simp only [F142, F142_T, z1, z2, z3, z4, z5, u_0])
def F142_d (k : Nat) : FD := ⟨142, F142_A, F142_O, F142 k⟩
theorem F142_q (k : Nat) : (F142_d k).Ok Tryz.prog := ⟨fun x => con_of (envOk (tabsOk (.c (F82_q k) .n)) _ _ _ _) mixed Tryz.func142 rfl rfl (F142_ev k _ _ some), .of (by kernel_rfl)⟩
abbrev F101_E (k : Nat) : Env := env (tabs [F81_d k, F82_d k, F142_d k]) noHint .own [(false, 0), (false, 1)] k
abbrev F101_A : List PA := [.p m_1, .one mI]
abbrev F101_O : RO := ⟨[.a], [.pair mI (.pair mI m_9), m_1]⟩
def F101_T {β : Type} (RET : (den fin) × (L_u8 × Int) → Option β) (k : Nat) (v : (L_u8 × Int)) (w : Int) : Option β := (F81 k v).bind fun b1 => (F82 k b1.2.2.2.2 2).bind fun b2 => cond (b2.1 == 0) ((F142 k b2.2 w).bind fun b3 => cond b3.1 ((F82 k b3.2 6).bind fun b4 => cond (b4.1 == 0) ((F82 k b4.2 8).bind fun b5 => RET ((i64.wrap (b5.1 - 1), b1.2.1.2), b5.2)) (cond (b4.1 == 1) ((F82 k b4.2 3).bind fun b6 => RET ((b1.2.1.1, b1.2.1.2.1, b1.2.1.2.2.1, b1.2.1.2.2.2.1, b1.2.1.2.2.2.2.1, b1.2.1.2.2.2.2.2.1, b1.2.1.2.2.2.2.2.2.1, b1.2.1.2.2.2.2.2.2.2.1, b1.2.1.2.2.2.2.2.2.2.2.1, b1.2.1.2.2.2.2.2.2.2.2.2.1, b1.2.1.2.2.2.2.2.2.2.2.2.2.1, i64.wrap ((i64.wrap (b1.2.1.2.2.2.2.2.2.2.1.1 - 1)) + b6.1), b1.2.1.2.2.2.2.2.2.2.2.2.2.2.2), b6.2)) (cond (b4.1 == 2) (RET ((b1.2.1.1, b1.2.1.2.1, b1.2.1.2.2.1, b1.2.1.2.2.2.1, b1.2.1.2.2.2.2.1, b1.2.1.2.2.2.2.2.1, b1.2.1.2.2.2.2.2.2.1, b1.2.1.2.2.2.2.2.2.2.1, b1.2.1.2.2.2.2.2.2.2.2.1, (!b1.2.1.2.2.2.2.2.2.2.2.2.1), b1.2.1.2.2.2.2.2.2.2.2.2.2), b4.2)) (cond (b4.1 == 3) (RET ((b1.2.1.1, b1.2.1.2.1, b1.2.1.2.2.1, b1.2.1.2.2.2.1, b1.2.1.2.2.2.2.1, b1.2.1.2.2.2.2.2.1, (b1.2.1.2.2.2.2.2.1, b1.2.1.2.2.2.2.2.2.1.2), b1.2.1.2.2.2.2.2.2.2), b4.2)) (cond (b4.1 == 4) (RET ((b1.2.1.1, b1.2.1.2.1, b1.2.1.2.2.1, b1.2.1.2.2.2.1, b1.2.1.2.2.2.2.1, b1.2.1.2.2.2.2.2.1, b1.2.1.2.2.2.2.2.2.1, b1.2.1.2.2.2.2.2.2.2.1, b1.2.1.2.2.2.2.2.2.2.2.1, b1.2.1.2.2.2.2.2.2.2.2.2.1, b1.2.1.2.2.2.2.2.2.2.2.2.2.1, b1.2.1.2.2.2.2.2.2.2.2.2.2.2.1, b1.2.1.2.2.2.2.2.2.2.2.2.2.2.2.1, 9, b1.2.1.2.2.2.2.2.2.2.2.2.2.2.2.2.2), b4.2)) (RET ((b1.2.1.1, b1.2.1.2.1, 0, b1.2.1.2.2.2), b4.2))))))) (RET (b1.2.1, b3.2))) ((F142 k b2.2 w).bind fun b7 => cond b7.1 ((F82 k b7.2 6).bind fun b8 => cond (b8.1 == 0) ((F82 k b8.2 8).bind fun b9 => RET ((i64.wrap (b9.1 - 1), b1.1.2), b9.2)) (cond (b8.1 == 1) ((F82 k b8.2 3).bind fun b10 => RET ((b1.1.1, b1.1.2.1, b1.1.2.2.1, b1.1.2.2.2.1, b1.1.2.2.2.2.1, b1.1.2.2.2.2.2.1, b1.1.2.2.2.2.2.2.1, b1.1.2.2.2.2.2.2.2.1, b1.1.2.2.2.2.2.2.2.2.1, b1.1.2.2.2.2.2.2.2.2.2.1, b1.1.2.2.2.2.2.2.2.2.2.2.1, i64.wrap ((i64.wrap (b1.1.2.2.2.2.2.2.2.1.1 - 1)) + b10.1), b1.1.2.2.2.2.2.2.2.2.2.2.2.2), b10.2)) (cond (b8.1 == 2) (RET ((b1.1.1, b1.1.2.1, b1.1.2.2.1, b1.1.2.2.2.1, b1.1.2.2.2.2.1, b1.1.2.2.2.2.2.1, b1.1.2.2.2.2.2.2.1, b1.1.2.2.2.2.2.2.2.1, b1.1.2.2.2.2.2.2.2.2.1, (!b1.1.2.2.2.2.2.2.2.2.2.1), b1.1.2.2.2.2.2.2.2.2.2.2), b8.2)) (cond (b8.1 == 3) (RET ((b1.1.1, b1.1.2.1, b1.1.2.2.1, b1.1.2.2.2.1, b1.1.2.2.2.2.1, b1.1.2.2.2.2.2.1, (b1.1.2.2.2.2.2.1, b1.1.2.2.2.2.2.2.1.2), b1.1.2.2.2.2.2.2.2), b8.2)) (cond (b8.1 == 4) (RET ((b1.1.1, b1.1.2.1, b1.1.2.2.1, b1.1.2.2.2.1, b1.1.2.2.2.2.1, b1.1.2.2.2.2.2.1, b1.1.2.2.2.2.2.2.1, b1.1.2.2.2.2.2.2.2.1, b1.1.2.2.2.2.2.2.2.2.1, b1.1.2.2.2.2.2.2.2.2.2.1, b1.1.2.2.2.2.2.2.2.2.2.2.1, b1.1.2.2.2.2.2.2.2.2.2.2.2.1, b1.1.2.2.2.2.2.2.2.2.2.2.2.2.1, 9, b1.1.2.2.2.2.2.2.2.2.2.2.2.2.2.2), b8.2)) (RET ((b1.1.1, b1.1.2.1, 0, b1.1.2.2.2), b8.2))))))) (RET (b1.1, b7.2)))
def F101 := F101_T (β := (den fin) × (L_u8 × Int)) some
theorem F101_ev {β : Type} (k : Nat) (v : (L_u8 × Int)) (w : Int) (K : KT β) : evalF (F101_E k) Tryz.f101 (PsT.put F101_A (v, w, ())) K = (F101 k v w).bind fun r => K (F101_O.put r) :=
 Eq.trans (b := F101_T (fun r => K (F101_O.put r)) k v w) (by kernel_rfl) (by simp only [F101, F101_T, z1, z2, z3, z4, z5, u_0])
def F101_d (k : Nat) : FD := ⟨101, F101_A, F101_O, F101 k⟩
theorem F101_q (k : Nat) : (F101_d k).Ok Tryz.prog := ⟨fun x => con_of (envOk (tabsOk (.c (F81_q k) (.c (F82_q k) (.c (F142_q k) .n)))) _ _ _ _) mixed Tryz.func101 rfl rfl (F101_ev k _ _ some), .of (by kernel_rfl)⟩
end
end Go.Proofs.YtjkkbmkkljpcjaaGreat.Gn
end

section
set_option linter.unusedVariables false
set_option linter.unusedSimpArgs false
namespace Go.Proofs.YtjkkbmkkljpcjaaGreat.Gn
open Go.Rf IntKind
noncomputable section
abbrev F33_E (k : Nat) : Env := env (tabs [F80_d k, F101_d k]) noHint .own [] k
abbrev F33_A : List PA := [.one (.sl .ro (.int .u8))]
abbrev F33_O : RO := ⟨[.a], [.pair mI (.pair mI m_9)]⟩
def F33 (k : Nat) (v : L_u8) : Option ((den fin)) := (F80 k v).bind fun b1 => (F101 k b1 9).bind fun b2 => some b2.1
theorem F33_ev {β : Type} (k : Nat) (v : L_u8) (K : KT β) : evalF (F33_E k) Tryz.f33 (PsT.put F33_A (v, ())) K = (F33 k v).bind fun r => K (F33_O.put r) :=
 Eq.trans (b := (F80 k v).bind fun b1 => (F101 k b1 9).bind fun b2 => K (F33_O.put b2.1)) (by kernel_rfl) (by simp only [F33, z1, z2, z3, z4, z5])
def F33_d (k : Nat) : FD := ⟨33, F33_A, F33_O, F33 k⟩
theorem F33_q (k : Nat) : (F33_d k).Ok Tryz.prog := ⟨fun x => con_of (envOk (tabsOk (.c (F80_q k) (.c (F101_q k) .n))) _ _ _ _) mixed Tryz.func33 rfl rfl (F33_ev k _ some), .of (by kernel_rfl)⟩
abbrev F35_E (k : Nat) : Env := env (tabs [F42_d k]) noHint .own [] k
abbrev F35_A : List PA := [.agg (.pair mI (.pair mI m_9))]
abbrev F35_O : RO := ⟨[.v], [mB]⟩
def F35_T {β : Type} (RET : Bool → Option β) (k : Nat) (v : (den fin)) : Option β := (F42 k v).bind fun b1 => cond b1 (cond (v.2.2.2.2.2.2.2.2.2.2.2.1 == v.2.2.2.2.2.2.2.1.1) (RET ((v.2.2.2.2.2.2.2.1.2.2.1.length : Int) == 0)) (RET false)) (RET false)
def F35 := F35_T (β := Bool) some
theorem F35_ev {β : Type} (k : Nat) (v : (den fin)) (K : KT β) : evalF (F35_E k) Tryz.f35 (PsT.put F35_A (v, ())) K = (F35 k v).bind fun r => K (F35_O.put r) :=
 Eq.trans (b := F35_T (fun r => K (F35_O.put r)) k v) (by kernel_rfl) (by simp only [F35, F35_T, z1, z2, z3, z4, z5, u_fin])
def F35_d (k : Nat) : FD := ⟨35, F35_A, F35_O, F35 k⟩
theorem F35_q (k : Nat) : (F35_d k).Ok Tryz.prog := ⟨fun x => con_of (envOk (tabsOk (.c (F42_q k) .n)) _ _ _ _) mixed Tryz.func35 rfl rfl (F35_ev k _ some), .of (by kernel_rfl)⟩
end
end Go.Proofs.YtjkkbmkkljpcjaaGreat.Gn
end

section
set_option linter.unusedVariables false
set_option linter.unusedSimpArgs false
namespace Go.Proofs.YtjkkbmkkljpcjaaGreat.Gn
open Go.Rf IntKind
noncomputable section
abbrev F85_E (k : Nat) : Env := env noTab noHint .own [] k
abbrev F85_A : List PA := [.one mI, .one mI, .one mI]
abbrev F85_O : RO := ⟨[.v], [mB]⟩
def F85 (k : Nat) (v w p : Int) : Option (Bool) := cond (decide (v ≥ w)) (some (decide (v ≤ p))) (some false)
theorem F85_ev {β : Type} (k : Nat) (v w p : Int) (K : KT β) : evalF (F85_E k) Tryz.f85 (PsT.put F85_A (v, w, p, ())) K = (F85 k v w p).bind fun r => K (F85_O.put r) :=
 Eq.trans (b := cond (decide (v ≥ w)) (K (F85_O.put (decide (v ≤ p)))) (K (F85_O.put false))) (by kernel_rfl) (by simp only [F85, z1, z2, z3, z4, z5])
def F85_d (k : Nat) : FD := ⟨85, F85_A, F85_O, F85 k⟩
theorem F85_q (k : Nat) : (F85_d k).Ok Tryz.prog := ⟨fun x => con_of (envOk .none _ _ _ _) mixed Tryz.func85 rfl rfl (F85_ev k _ _ _ some), .of (by kernel_rfl)⟩
abbrev F63_E (k : Nat) : Env := env (tabs [F85_d k]) noHint .own [] k
abbrev F63_A : List PA := [.one mI]
abbrev F63_O : RO := ⟨[.v], [mB]⟩
def F63 (k : Nat) (v : Int) : Option (Bool) := (F85 k v 0 65535).bind fun b1 => some b1
theorem F63_ev {β : Type} (k : Nat) (v : Int) (K : KT β) : evalF (F63_E k) Tryz.f63 (PsT.put F63_A (v, ())) K = (F63 k v).bind fun r => K (F63_O.put r) :=
 Eq.trans (b := (F85 k v 0 65535).bind fun b1 => K (F63_O.put b1)) (by kernel_rfl) (by simp only [F63, z1, z2, z3, z4, z5])
def F63_d (k : Nat) : FD := ⟨63, F63_A, F63_O, F63 k⟩
theorem F63_q (k : Nat) : (F63_d k).Ok Tryz.prog := ⟨fun x => con_of (envOk (tabsOk (.c (F85_q k) .n)) _ _ _ _) mixed Tryz.func63 rfl rfl (F63_ev k _ some), .of (by kernel_rfl)⟩
abbrev F86_E (k : Nat) : Env := env (tabs [F85_d k]) noHint .own [] k
abbrev F86_A : List PA := [.one mI]
abbrev F86_O : RO := ⟨[.v], [mB]⟩
def F86 (k : Nat) (v : Int) : Option (Bool) := (F85 k v 1 255).bind fun b1 => some b1
theorem F86_ev {β : Type} (k : Nat) (v : Int) (K : KT β) : evalF (F86_E k) Tryz.f86 (PsT.put F86_A (v, ())) K = (F86 k v).bind fun r => K (F86_O.put r) :=
 Eq.trans (b := (F85 k v 1 255).bind fun b1 => K (F86_O.put b1)) (by kernel_rfl) (by simp only [F86, z1, z2, z3, z4, z5])
def F86_d (k : Nat) : FD := ⟨86, F86_A, F86_O, F86 k⟩
theorem F86_q (k : Nat) : (F86_d k).Ok Tryz.prog := ⟨fun x => con_of (envOk (tabsOk (.c (F85_q k) .n)) _ _ _ _) mixed Tryz.func86 rfl rfl (F86_ev k _ some), .of (by kernel_rfl)⟩
abbrev F170_E (k : Nat) : Env := env noTab noHint .own [] k
abbrev F170_A : List PA := [.one (.sl .own rng)]
abbrev F170_O : RO := ⟨[.v], [.sl .own rng]⟩
def F170_T {β : Type} (RET : L_rng → Option β) (k : Nat) (v : L_rng) : Option β := cond (decide (0 ≤ (v.length : Int)) && decide ((v.length : Int) ≤ (v.length : Int))) (cond (decide ((v.length : Int) = (v.length : Int))) (RET ((v.take ((v.length : Int).toNat)).drop 0)) none) none
def F170 := F170_T (β := L_rng) some
theorem F170_ev {β : Type} (k : Nat) (v : L_rng) (K : KT β) : evalF (F170_E k) Tryz.f170 (PsT.put F170_A (v, ())) K = (F170 k v).bind fun r => K (F170_O.put r) :=
 Eq.trans (b := F170_T (fun r => K (F170_O.put r)) k v) (by kernel_rfl) (by simp only [F170, F170_T, z1, z2, z3, z4, z5])
def F170_d (k : Nat) : FD := ⟨170, F170_A, F170_O, F170 k⟩
theorem F170_q (k : Nat) : (F170_d k).Ok Tryz.prog := ⟨fun x => con_of (envOk .none _ _ _ _) mixed Tryz.func170 rfl rfl (F170_ev k _ some), .of (by kernel_rfl)⟩
abbrev F147_E (k : Nat) : Env := env (tabs [F170_d k]) noHint .own [] k
abbrev F147_A : List PA := [.one (.sl .ro rng)]
abbrev F147_O : RO := ⟨[.v], [.sl .own rng]⟩
def F147_T {β : Type} (RET : L_rng → Option β) (k : Nat) (v : L_rng) : Option β := cond ((v.length : Int) == 0) (RET []) (szc (([] : L_rng).length) (v.length) 16 ((F170 k ([] ++ v)).bind fun b1 => RET b1))
def F147 := F147_T (β := L_rng) some
theorem F147_ev {β : Type} (k : Nat) (v : L_rng) (K : KT β) : evalF (F147_E k) Tryz.f147 (PsT.put F147_A (v, ())) K = (F147 k v).bind fun r => K (F147_O.put r) :=
 Eq.trans (b := F147_T (fun r => K (F147_O.put r)) k v) (by kernel_rfl) (by simp only [F147, F147_T, z1, z2, z3, z4, z5])
def F147_d (k : Nat) : FD := ⟨147, F147_A, F147_O, F147 k⟩
theorem F147_q (k : Nat) : (F147_d k).Ok Tryz.prog := ⟨fun x => con_of (envOk (tabsOk (.c (F170_q k) .n)) _ _ _ _) mixed Tryz.func147 rfl rfl (F147_ev k _ some), .of (by kernel_rfl)⟩
def F144_h : Nat → Hint
 | 0 => ⟨pl 2 1 ((7, .own .own rng []) :: (pl 8 1 (pl 12 3 []))), []⟩
 | _ => ⟨[], []⟩
abbrev F144_E (k : Nat) : Env := env (tabs [F147_d k]) F144_h .own [] k
abbrev F144_A : List PA := [.one (.sl .ro rng), .one mI, .one mI]
abbrev F144_O : RO := ⟨[.v], [.sl .own rng]⟩
noncomputable def F144_z {β : Type} (k : Nat) (v : L_rng) (w p : Int) (K : KT β) : Ex → St → Option β := endC (F144_E k) Tryz.f144 (PsT.put F144_A (v, w, p, ())) K
def F144_s0 (v : L_rng) (w p : Int) (x8_0 x14_0 : Int) (m7900_0 : L_rng) : St := ⟨(.one .d) :: (.one .d) :: (.one (vI p)) :: dz 4 ((.one (.a (.cell 7900) 0 0 none)) :: (.one (vI x8_0)) :: dz 3 ((.one (.s .ro rng v)) :: (.one (vI (v.length : Int))) :: (.one (vI x14_0)) :: dz 34 [])), [eM 7900 (.s .own rng m7900_0)]⟩
noncomputable def F144_l0_g {β : Type} (k : Nat) (v : L_rng) (w p : Int) (K : KT β) (n : Nat) (x8_0 x14_0 : Int) (m7900_0 : L_rng) : Option β := loopG (F144_E k) Tryz.f144 [1, 1, 1, 0, 1, 0] 0 (kontAt (F144_E k) [1, 1, 1, 0, 1, 0] (bodyOf Tryz.f144) 0 (F144_z k v w p K)) n (F144_s0 v w p x8_0 x14_0 m7900_0)
def F144_l0_T {β : Type} (NX : Int → Int → L_rng → Option β) (RET : L_rng → Option β) (k : Nat) (v : L_rng) (w p : Int) (x8_0 x14_0 : Int) (m7900_0 : L_rng) : Option β := cond (decide (x14_0 < (v.length : Int))) (ixc x14_0 v (cond (decide ((atI v x14_0).1 > x8_0)) (cond (decide ((atI v x14_0).2 > (atI v x14_0).1)) (cond (decide ((atI v x14_0).2 ≤ p)) (cond (decide ((m7900_0.length : Int) < 2)) (szc (m7900_0.length) ([(atI v x14_0)].length) 16 (NX (atI v x14_0).2 (i64.wrap (x14_0 + 1)) (m7900_0 ++ [(atI v x14_0)]))) (NX x8_0 (i64.wrap (x14_0 + 1)) m7900_0)) (NX x8_0 (i64.wrap (x14_0 + 1)) m7900_0)) (NX x8_0 (i64.wrap (x14_0 + 1)) m7900_0)) (NX x8_0 (i64.wrap (x14_0 + 1)) m7900_0))) ((F147 k m7900_0).bind fun b1 => RET b1)
def F144_l0 (k : Nat) (v : L_rng) (w p : Int) : Nat → Int → Int → L_rng → Option (L_rng)
 | 0, _, _, _ => none
 | n + 1, x8_0, x14_0, m7900_0 => F144_l0_T (F144_l0 k v w p n) some k v w p x8_0 x14_0 m7900_0
theorem F144_l0_lp {β : Type} (k : Nat) (v : L_rng) (w p : Int) (K : KT β) (n : Nat) : ∀ (x8_0 x14_0 : Int) (m7900_0 : L_rng), F144_l0_g k v w p K n x8_0 x14_0 m7900_0 =
  (F144_l0 k v w p n x8_0 x14_0 m7900_0).bind fun r => K (F144_O.put r) := by
 induction n with
 | zero => intros; rfl
 | succ n ih =>
  intro x8_0 x14_0 m7900_0
  refine Eq.trans (b := F144_l0_T (F144_l0_g k v w p K n) (fun r => K (F144_O.put r)) k v w p x8_0 x14_0 m7900_0) (by kernel_rfl) ?_
  rw [F144_l0]
  simp only [F144_l0_T, z1, z2, z3, z4, z5, ih]
def F144_T {β : Type} (LP0 : Int → Int → L_rng → Option β) (k : Nat) (v : L_rng) (w p : Int) : Option β := LP0 w 0 []
def F144 (k : Nat) (v : L_rng) (w p : Int) : Option (L_rng) := F144_T (F144_l0 k v w p k) k v w p
theorem F144_ev {β : Type} (k : Nat) (v : L_rng) (w p : Int) (K : KT β) : evalF (F144_E k) Tryz.f144 (PsT.put F144_A (v, w, p, ())) K = (F144 k v w p).bind fun r => K (F144_O.put r) :=
 Eq.trans (b := F144_T (F144_l0_g k v w p K k) k v w p) (by kernel_rfl) (by simp only [F144, F144_T, z1, z2, z3, z4, z5, F144_l0_lp])
def F144_d (k : Nat) : FD := ⟨144, F144_A, F144_O, F144 k⟩
theorem F144_q (k : Nat) : (F144_d k).Ok Tryz.prog := ⟨fun x => con_of (envOk (tabsOk (.c (F147_q k) .n)) _ _ _ _) mixed Tryz.func144 rfl rfl (F144_ev k _ _ _ some), .of (by kernel_rfl)⟩
def F143_h : Nat → Hint
 | 0 => ⟨pl 0 2 (pl 12 2 []), []⟩
 | _ => ⟨[], []⟩
abbrev F143_E (k : Nat) : Env := env noTab F143_h .own [] k
abbrev F143_A : List PA := [.one (.sl .ro rng), .one (.sl .ro rng)]
abbrev F143_O : RO := ⟨[.v], [mB]⟩
noncomputable def F143_z {β : Type} (k : Nat) (v w : L_rng) (K : KT β) : Ex → St → Option β := endC (F143_E k) Tryz.f143 (PsT.put F143_A (v, w, ())) K
def F143_s0 (v w : L_rng) (x13_0 : Int) : St := ⟨(.one (.s .ro rng v)) :: (.one (.s .ro rng w)) :: dz 10 ((.one (vI (v.length : Int))) :: (.one (vI x13_0)) :: dz 12 []), []⟩
noncomputable def F143_l0_g {β : Type} (k : Nat) (v w : L_rng) (K : KT β) (n : Nat) (x13_0 : Int) : Option β := loopG (F143_E k) Tryz.f143 [1, 1, 0, 1, 0] 0 (kontAt (F143_E k) [1, 1, 0, 1, 0] (bodyOf Tryz.f143) 0 (F143_z k v w K)) n (F143_s0 v w x13_0)
def F143_l0_T {β : Type} (NX : Int → Option β) (RET : Bool → Option β) (k : Nat) (v w : L_rng) (x13_0 : Int) : Option β := cond (decide (x13_0 < (v.length : Int))) (ixc x13_0 v (ixc x13_0 w (cond (!(eqD rng (atI v x13_0) (atI w x13_0))) (RET false) (NX (i64.wrap (x13_0 + 1)))))) (RET true)
def F143_l0 (k : Nat) (v w : L_rng) : Nat → Int → Option (Bool)
 | 0, _ => none
 | n + 1, x13_0 => F143_l0_T (F143_l0 k v w n) some k v w x13_0
theorem F143_l0_lp {β : Type} (k : Nat) (v w : L_rng) (K : KT β) (n : Nat) : ∀ (x13_0 : Int), F143_l0_g k v w K n x13_0 =
  (F143_l0 k v w n x13_0).bind fun r => K (F143_O.put r) := by
 induction n with
 | zero => intros; rfl
 | succ n ih =>
  intro x13_0
  refine Eq.trans (b := F143_l0_T (F143_l0_g k v w K n) (fun r => K (F143_O.put r)) k v w x13_0) (by kernel_rfl) ?_
  rw [F143_l0]
  simp only [F143_l0_T, z1, z2, z3, z4, z5, ih]
def F143_T {β : Type} (LP0 : Int → Option β) (RET : Bool → Option β) (k : Nat) (v w : L_rng) : Option β := cond ((v.length : Int) != (w.length : Int)) (RET false) (LP0 0)
def F143 (k : Nat) (v w : L_rng) : Option (Bool) := F143_T (F143_l0 k v w k) some k v w
theorem F143_ev {β : Type} (k : Nat) (v w : L_rng) (K : KT β) : evalF (F143_E k) Tryz.f143 (PsT.put F143_A (v, w, ())) K = (F143 k v w).bind fun r => K (F143_O.put r) :=
 Eq.trans (b := F143_T (F143_l0_g k v w K k) (fun r => K (F143_O.put r)) k v w) (by kernel_rfl) (by simp only [F143, F143_T, z1, z2, z3, z4, z5, F143_l0_lp])
def F143_d (k : Nat) : FD := ⟨143, F143_A, F143_O, F143 k⟩
theorem F143_q (k : Nat) : (F143_d k).Ok Tryz.prog := ⟨fun x => con_of (envOk .none _ _ _ _) mixed Tryz.func143 rfl rfl (F143_ev k _ _ some), .of (by kernel_rfl)⟩
abbrev F87_E (k : Nat) : Env := env (tabs [F85_d k, F144_d k, F143_d k]) noHint .own [] k
abbrev F87_A : List PA := [.agg (.pair mI m_3)]
abbrev F87_O : RO := ⟨[.v], [mB]⟩
def F87_T {β : Type} (RET : Bool → Option β) (k : Nat) (v : (den mth)) : Option β := u_mth v fun v0 v1 v2 v3 v4 => (F85 k v0 0 1000000).bind fun b1 => cond b1 (cond (decide ((v1.length : Int) ≤ 32)) ((F85 k v2 0 (v1.length : Int)).bind fun b2 => cond b2 ((F85 k v3 0 255).bind fun b3 => cond b3 (cond (decide ((v4.length : Int) ≤ 2)) ((F144 k v4 v0 (i64.wrap (v0 + v2))).bind fun b4 => (F143 k b4 v4).bind fun b5 => RET b5) (RET false)) (RET false)) (RET false)) (RET false)) (RET false)
def F87 := F87_T (β := Bool) some
theorem F87_ev {β : Type} (k : Nat) (v : (den mth)) (K : KT β) : evalF (F87_E k) Tryz.f87 (PsT.put F87_A (v, ())) K = (F87 k v).bind fun r => K (F87_O.put r) :=
 Eq.trans (b := F87_T (fun r => K (F87_O.put r)) k v) (by kernel_rfl) (by simp only [F87, F87_T, z1, z2, z3, z4, z5, u_mth])
def F87_d (k : Nat) : FD := ⟨87, F87_A, F87_O, F87 k⟩
theorem F87_q (k : Nat) : (F87_d k).Ok Tryz.prog := ⟨fun x => con_of (envOk (tabsOk (.c (F85_q k) (.c (F144_q k) (.c (F143_q k) .n)))) _ _ _ _) mixed Tryz.func87 rfl rfl (F87_ev k _ some), .of (by kernel_rfl)⟩
abbrev F104_E (k : Nat) : Env := env noTab noHint .own [] k
abbrev F104_A : List PA := [.agg (.pair mI (.pair mI m_4))]
abbrev F104_O : RO := ⟨[.v], [mI]⟩
def F104 (k : Nat) (v : (den ear)) : Option (Int) := some (i64.wrap (v.2.1 - (v.2.2.1.length : Int)))
theorem F104_ev {β : Type} (k : Nat) (v : (den ear)) (K : KT β) : evalF (F104_E k) Tryz.f104 (PsT.put F104_A (v, ())) K = (F104 k v).bind fun r => K (F104_O.put r) :=
 Eq.trans (b := K (F104_O.put (i64.wrap (v.2.1 - (v.2.2.1.length : Int))))) (by kernel_rfl) (by simp only [F104, z1, z2, z3, z4, z5, u_ear])
def F104_d (k : Nat) : FD := ⟨104, F104_A, F104_O, F104 k⟩
theorem F104_q (k : Nat) : (F104_d k).Ok Tryz.prog := ⟨fun x => con_of (envOk .none _ _ _ _) mixed Tryz.func104 rfl rfl (F104_ev k _ some), .of (by kernel_rfl)⟩
def F88_h : Nat → Hint
 | 0 => ⟨pl 1 1 (pl 21 3 []), pl 1000 4 []⟩
 | _ => ⟨[], []⟩
abbrev F88_E (k : Nat) : Env := env (tabs [F85_d k, F104_d k]) F88_h .own [] k
abbrev F88_A : List PA := [.agg (.pair mI (.pair mI m_4))]
abbrev F88_O : RO := ⟨[.v], [mB]⟩
noncomputable def F88_z {β : Type} (k : Nat) (v : (den ear)) (K : KT β) : Ex → St → Option β := endC (F88_E k) Tryz.f88 (PsT.put F88_A (v, ())) K
def F88_s0 (v : (den ear)) (x23_0 : Int) : St := ⟨(.one .d) :: (.one (.ptr (.cell 1000) 4 0)) :: dz 19 ((.one (.s .ro erl v.2.2.2)) :: (.one (vI (v.2.2.2.length : Int))) :: (.one (vI x23_0)) :: dz 34 []), rowE 1000 (lsM (.pair mI (.pair mI m_4)) v) []⟩
noncomputable def F88_l0_g {β : Type} (k : Nat) (v : (den ear)) (K : KT β) (n : Nat) (x23_0 : Int) : Option β := loopG (F88_E k) Tryz.f88 [1, 1, 0, 1, 0] 0 (kontAt (F88_E k) [1, 1, 0, 1, 0] (bodyOf Tryz.f88) 0 (F88_z k v K)) n (F88_s0 v x23_0)
def F88_l0_T {β : Type} (NX : Int → Option β) (RET : Bool → Option β) (k : Nat) (v : (den ear)) (x23_0 : Int) : Option β := u_ear v fun v0 _ _ v3 => cond (decide (x23_0 < (v3.length : Int))) (ixc x23_0 v3 ((F104 k v).bind fun b4 => (F85 k (atI v3 x23_0).1 (i64.wrap (v0 + 1)) (i64.wrap ((i64.wrap (v0 + b4)) - 1))).bind fun b5 => cond (!b5) (RET false) (cond (decide (x23_0 > 0)) (ixc (i64.wrap (x23_0 - 1)) v3 (cond (decide ((atI v3 (i64.wrap (x23_0 - 1))).1 ≥ (atI v3 x23_0).1)) (RET false) (NX (i64.wrap (x23_0 + 1))))) (NX (i64.wrap (x23_0 + 1)))))) (RET true)
def F88_l0 (k : Nat) (v : (den ear)) : Nat → Int → Option (Bool)
 | 0, _ => none
 | n + 1, x23_0 => F88_l0_T (F88_l0 k v n) some k v x23_0
theorem F88_l0_lp {β : Type} (k : Nat) (v : (den ear)) (K : KT β) (n : Nat) : ∀ (x23_0 : Int), F88_l0_g k v K n x23_0 =
  (F88_l0 k v n x23_0).bind fun r => K (F88_O.put r) := by
 induction n with
 | zero => intros; rfl
 | succ n ih =>
  intro x23_0
  refine Eq.trans (b := F88_l0_T (F88_l0_g k v K n) (fun r => K (F88_O.put r)) k v x23_0) (by kernel_rfl) ?_
  rw [F88_l0]
  simp only [F88_l0_T, z1, z2, z3, z4, z5, u_ear, ih]
def F88_T {β : Type} (LP0 : Int → Option β) (RET : Bool → Option β) (k : Nat) (v : (den ear)) : Option β := (F85 k v.1 0 1000000).bind fun b1 => cond (!b1) (RET false) ((F85 k v.2.1 1 32).bind fun b2 => cond (!b2) (RET false) ((F104 k v).bind fun b3 => cond (decide (b3 < 0)) (RET false) (LP0 0)))
def F88 (k : Nat) (v : (den ear)) : Option (Bool) := F88_T (F88_l0 k v k) some k v
theorem F88_ev {β : Type} (k : Nat) (v : (den ear)) (K : KT β) : evalF (F88_E k) Tryz.f88 (PsT.put F88_A (v, ())) K = (F88 k v).bind fun r => K (F88_O.put r) :=
 Eq.trans (b := F88_T (F88_l0_g k v K k) (fun r => K (F88_O.put r)) k v) (by kernel_rfl) (by simp only [F88, F88_T, z1, z2, z3, z4, z5, u_ear, F88_l0_lp])
def F88_d (k : Nat) : FD := ⟨88, F88_A, F88_O, F88 k⟩
theorem F88_q (k : Nat) : (F88_d k).Ok Tryz.prog := ⟨fun x => con_of (envOk (tabsOk (.c (F85_q k) (.c (F104_q k) .n))) _ _ _ _) mixed Tryz.func88 rfl rfl (F88_ev k _ some), .of (by kernel_rfl)⟩
abbrev F89_E (k : Nat) : Env := env (tabs [F85_d k]) noHint .own [] k
abbrev F89_A : List PA := [.agg (.pair mI (.pair mI mI))]
abbrev F89_O : RO := ⟨[.v], [mB]⟩
def F89_T {β : Type} (RET : Bool → Option β) (k : Nat) (v : (den clk)) : Option β := (F85 k v.1 0 80000).bind fun b1 => cond b1 ((F85 k v.2.1 0 80000).bind fun b2 => cond b2 ((F85 k v.2.2 4 200).bind fun b3 => RET b3) (RET false)) (RET false)
def F89 := F89_T (β := Bool) some
theorem F89_ev {β : Type} (k : Nat) (v : (den clk)) (K : KT β) : evalF (F89_E k) Tryz.f89 (PsT.put F89_A (v, ())) K = (F89 k v).bind fun r => K (F89_O.put r) :=
 Eq.trans (b := F89_T (fun r => K (F89_O.put r)) k v) (by kernel_rfl) (by simp only [F89, F89_T, z1, z2, z3, z4, z5, u_clk])
def F89_d (k : Nat) : FD := ⟨89, F89_A, F89_O, F89 k⟩
theorem F89_q (k : Nat) : (F89_d k).Ok Tryz.prog := ⟨fun x => con_of (envOk (tabsOk (.c (F85_q k) .n)) _ _ _ _) mixed Tryz.func89 rfl rfl (F89_ev k _ some), .of (by kernel_rfl)⟩
def F90_h : Nat → Hint
 | 0 => ⟨pl 1 1 (pl 41 3 []), pl 1000 24 []⟩
 | _ => ⟨[], []⟩
abbrev F90_E (k : Nat) : Env := env (tabs [F85_d k]) F90_h .own [] k
abbrev F90_A : List PA := [.agg (.pair mI (.pair mI m_9))]
abbrev F90_O : RO := ⟨[.v], [mB]⟩
noncomputable def F90_z {β : Type} (k : Nat) (v : (den fin)) (K : KT β) : Ex → St → Option β := endC (F90_E k) Tryz.f90 (PsT.put F90_A (v, ())) K
def F90_s0 (v : (den fin)) (x43_0 : Int) : St := ⟨(.one .d) :: (.one (.ptr (.cell 1000) 24 0)) :: dz 39 ((.one (.s .ro erl v.2.2.2.2.2.2.2.1.2.2.2)) :: (.one (vI (v.2.2.2.2.2.2.2.1.2.2.2.length : Int))) :: (.one (vI x43_0)) :: dz 20 []), rowE 1000 (lsM (.pair mI (.pair mI m_9)) v) []⟩
noncomputable def F90_l0_g {β : Type} (k : Nat) (v : (den fin)) (K : KT β) (n : Nat) (x43_0 : Int) : Option β := loopG (F90_E k) Tryz.f90 [1, 1, 1, 0, 1, 0] 0 (kontAt (F90_E k) [1, 1, 1, 0, 1, 0] (bodyOf Tryz.f90) 0 (F90_z k v K)) n (F90_s0 v x43_0)
def F90_l0_T {β : Type} (NX : Int → Option β) (RET : Bool → Option β) (k : Nat) (v : (den fin)) (x43_0 : Int) : Option β := cond (decide (x43_0 < (v.2.2.2.2.2.2.2.1.2.2.2.length : Int))) (ixc x43_0 v.2.2.2.2.2.2.2.1.2.2.2 (cond (decide ((atI v.2.2.2.2.2.2.2.1.2.2.2 x43_0).1 ≥ v.2.2.2.2.2.2.2.2.2.2.2.1)) (RET false) (NX (i64.wrap (x43_0 + 1))))) ((F85 k v.2.2.2.2.2.2.2.2.2.2.2.1 v.2.2.2.2.2.2.2.1.1 1000000).bind fun b1 => cond b1 (RET (decide (v.1 ≥ 4))) (RET false))
def F90_l0 (k : Nat) (v : (den fin)) : Nat → Int → Option (Bool)
 | 0, _ => none
 | n + 1, x43_0 => F90_l0_T (F90_l0 k v n) some k v x43_0
theorem F90_l0_lp {β : Type} (k : Nat) (v : (den fin)) (K : KT β) (n : Nat) : ∀ (x43_0 : Int), F90_l0_g k v K n x43_0 =
  (F90_l0 k v n x43_0).bind fun r => K (F90_O.put r) := by
 induction n with
 | zero => intros; rfl
 | succ n ih =>
  intro x43_0
  refine Eq.trans (b := F90_l0_T (F90_l0_g k v K n) (fun r => K (F90_O.put r)) k v x43_0) (by kernel_rfl) ?_
  rw [F90_l0]
  simp only [F90_l0_T, z1, z2, z3, z4, z5, u_fin, ih]
def F90_j1 {β : Type} (k : Nat) (v : (den fin)) (LP0 : Int → Option β) (RET : Bool → Option β) : Option β := cond v.2.2.2.2.2.2.2.2.2.1 (cond (!v.2.2.2.2.2.2.2.2.1) (RET false) (cond (v.2.2.2.2.2.2.1.2.2.1 != (v.2.2.2.2.2.2.1.2.1.length : Int)) (RET false) (cond (decide (v.1 < 4)) (RET false) (cond (v.2.2.2.2.2.2.2.2.2.2.2.1 == (-1)) (RET true) (LP0 0))))) (cond (v.2.2.2.2.2.2.2.2.2.2.2.1 == (-1)) (RET true) (LP0 0))
def F90_T {β : Type} (LP0 : Int → Option β) (RET : Bool → Option β) (k : Nat) (v : (den fin)) : Option β := cond v.2.2.2.2.2.2.2.2.2.2.1 (cond (!v.2.2.2.2.2.2.2.2.2.1) (RET false) (F90_j1 k v LP0 RET)) (F90_j1 k v LP0 RET)
def F90 (k : Nat) (v : (den fin)) : Option (Bool) := F90_T (F90_l0 k v k) some k v
theorem F90_ev {β : Type} (k : Nat) (v : (den fin)) (K : KT β) : evalF (F90_E k) Tryz.f90 (PsT.put F90_A (v, ())) K = (F90 k v).bind fun r => K (F90_O.put r) :=
 Eq.trans (b := F90_T (F90_l0_g k v K k) (fun r => K (F90_O.put r)) k v) (by kernel_rfl) (by simp only [F90, F90_T, F90_j1, z1, z2, z3, z4, z5, u_fin, F90_l0_lp])
def F90_d (k : Nat) : FD := ⟨90, F90_A, F90_O, F90 k⟩
theorem F90_q (k : Nat) : (F90_d k).Ok Tryz.prog := ⟨fun x => con_of (envOk (tabsOk (.c (F85_q k) .n)) _ _ _ _) mixed Tryz.func90 rfl rfl (F90_ev k _ some), .of (by kernel_rfl)⟩
abbrev F91_E (k : Nat) : Env := env noTab noHint .own [] k
abbrev F91_A : List PA := [.agg (.pair mI (.pair mI m_9))]
abbrev F91_O : RO := ⟨[.v], [mB]⟩
def F91_T {β : Type} (RET : Bool → Option β) (k : Nat) (v : (den fin)) : Option β := cond (v.1 == 2) (RET true) (cond (v.1 == 3) (RET true) (cond (v.1 == 4) (cond (decide ((v.2.2.2.2.2.2.1.2.1.length : Int) > 0)) (RET true) (cond v.2.2.2.2.2.2.2.2.2.1 (RET (!v.2.2.2.2.2.2.2.2.2.2.1)) (RET false))) (RET false)))
def F91 := F91_T (β := Bool) some
theorem F91_ev {β : Type} (k : Nat) (v : (den fin)) (K : KT β) : evalF (F91_E k) Tryz.f91 (PsT.put F91_A (v, ())) K = (F91 k v).bind fun r => K (F91_O.put r) :=
 Eq.trans (b := F91_T (fun r => K (F91_O.put r)) k v) (by kernel_rfl) (by simp only [F91, F91_T, z1, z2, z3, z4, z5, u_fin])
def F91_d (k : Nat) : FD := ⟨91, F91_A, F91_O, F91 k⟩
theorem F91_q (k : Nat) : (F91_d k).Ok Tryz.prog := ⟨fun x => con_of (envOk .none _ _ _ _) mixed Tryz.func91 rfl rfl (F91_ev k _ some), .of (by kernel_rfl)⟩
abbrev F24_E (k : Nat) : Env := env (tabs [F85_d k, F63_d k, F86_d k, F87_d k, F88_d k, F89_d k, F90_d k, F91_d k]) noHint .own [] k
abbrev F24_A : List PA := [.agg (.pair mI (.pair mI m_9))]
abbrev F24_O : RO := ⟨[.v], [mB]⟩
def F24_j1 {β : Type} (k : Nat) (v : (den fin)) (RET : Bool → Option β) : Option β := cond (v.1 == 0) (cond (!((v.2.2.2.2.1 == 0) == true)) (RET false) ((F91 k v).bind fun b13 => cond b13 (RET true) (cond (v.2.2.2.2.2.2.2.2.2.2.2.2.1 == 0) (cond (v.2.2.2.2.2.2.2.2.2.2.2.2.2.1 == 0) (RET true) (RET (v.1 == 5))) (RET false)))) (cond (!((v.2.2.2.2.1 == 0) == (v.1 == 1))) (RET false) ((F91 k v).bind fun b14 => cond b14 (RET true) (cond (v.2.2.2.2.2.2.2.2.2.2.2.2.1 == 0) (cond (v.2.2.2.2.2.2.2.2.2.2.2.2.2.1 == 0) (RET true) (RET (v.1 == 5))) (RET false))))
def F24_T {β : Type} (RET : Bool → Option β) (k : Nat) (v : (den fin)) : Option β := u_fin v fun v0 v1 v2 v3 v4 v5 v6 _ v8 _ _ _ _ _ _ _ _ _ _ v19 v20 v21 v22 v23 => (F85 k v0 0 5).bind fun b1 => cond (!b1) (RET false) ((F63 k v1).bind fun b2 => cond (!b2) (RET false) ((F86 k v2).bind fun b3 => cond (!b3) (RET false) ((F63 k v3).bind fun b4 => cond (!b4) (RET false) ((F85 k v4 0 255).bind fun b5 => cond (!b5) (RET false) ((F63 k v5).bind fun b6 => cond (!b6) (RET false) ((F87 k v.2.2.2.2.2.2.1).bind fun b7 => cond (!b7) (RET false) (cond (decide (v6 < (i64.wrap (v5 + 1)))) (RET false) ((F88 k v.2.2.2.2.2.2.2.1).bind fun b8 => cond (!b8) (RET false) ((F89 k (v21, v22, v23)).bind fun b9 => cond (!b9) (RET false) ((F85 k v19 0 1000000).bind fun b10 => cond (!b10) (RET false) ((F85 k v20 0 8).bind fun b11 => cond (!b11) (RET false) ((F90 k v).bind fun b12 => cond (!b12) (RET false) (cond (decide (v0 < 4)) (cond (v8 != 0) (RET false) (cond (v6 != (i64.wrap (v5 + 1))) (RET false) (F24_j1 k v RET))) (F24_j1 k v RET))))))))))))))
def F24 := F24_T (β := Bool) some
theorem F24_ev {β : Type} (k : Nat) (v : (den fin)) (K : KT β) : evalF (F24_E k) Tryz.f24 (PsT.put F24_A (v, ())) K = (F24 k v).bind fun r => K (F24_O.put r) :=
 Eq.trans (b := F24_T (fun r => K (F24_O.put r)) k v) (by kernel_rfl) (by simp only [F24, F24_T, F24_j1, z1, z2, z3, z4, z5, u_fin])
def F24_d (k : Nat) : FD := ⟨24, F24_A, F24_O, F24 k⟩
theorem F24_q (k : Nat) : (F24_d k).Ok Tryz.prog := ⟨fun x => con_of (envOk (tabsOk (.c (F85_q k) (.c (F63_q k) (.c (F86_q k) (.c (F87_q k) (.c (F88_q k) (.c (F89_q k) (.c (F90_q k) (.c (F91_q k) .n))))))))) _ _ _ _) mixed Tryz.func24 rfl rfl (F24_ev k _ some), .of (by kernel_rfl)⟩
abbrev F102_E (k : Nat) : Env := env noTab noHint .own [] k
abbrev F102_A : List PA := [.agg (.pair mI (.pair mI m_9))]
abbrev F102_O : RO := ⟨[.v], [mB]⟩
def F102 (k : Nat) (v : (den fin)) : Option (Bool) := cond (v.2.2.2.2.2.2.2.2.2.2.2.1 == v.2.2.2.2.2.2.2.1.1) (some ((v.2.2.2.2.2.2.2.1.2.2.1.length : Int) == 0)) (some false)
theorem F102_ev {β : Type} (k : Nat) (v : (den fin)) (K : KT β) : evalF (F102_E k) Tryz.f102 (PsT.put F102_A (v, ())) K = (F102 k v).bind fun r => K (F102_O.put r) :=
 Eq.trans (b := cond (v.2.2.2.2.2.2.2.2.2.2.2.1 == v.2.2.2.2.2.2.2.1.1) (K (F102_O.put ((v.2.2.2.2.2.2.2.1.2.2.1.length : Int) == 0))) (K (F102_O.put false))) (by kernel_rfl) (by simp only [F102, z1, z2, z3, z4, z5, u_fin])
def F102_d (k : Nat) : FD := ⟨102, F102_A, F102_O, F102 k⟩
theorem F102_q (k : Nat) : (F102_d k).Ok Tryz.prog := ⟨fun x => con_of (envOk .none _ _ _ _) mixed Tryz.func102 rfl rfl (F102_ev k _ some), .of (by kernel_rfl)⟩
abbrev F34_E (k : Nat) : Env := env (tabs [F24_d k, F102_d k]) noHint .own [] k
abbrev F34_A : List PA := [.agg (.pair mI (.pair mI m_9))]
abbrev F34_O : RO := ⟨[.v], [mB]⟩
def F34 (k : Nat) (v : (den fin)) : Option (Bool) := (F24 k v).bind fun b1 => cond b1 ((F102 k v).bind fun b2 => some b2) (some false)
theorem F34_ev {β : Type} (k : Nat) (v : (den fin)) (K : KT β) : evalF (F34_E k) Tryz.f34 (PsT.put F34_A (v, ())) K = (F34 k v).bind fun r => K (F34_O.put r) :=
 Eq.trans (b := (F24 k v).bind fun b1 => cond b1 ((F102 k v).bind fun b2 => K (F34_O.put b2)) (K (F34_O.put false))) (by kernel_rfl) (by simp only [F34, z1, z2, z3, z4, z5, u_fin])
def F34_d (k : Nat) : FD := ⟨34, F34_A, F34_O, F34 k⟩
theorem F34_q (k : Nat) : (F34_d k).Ok Tryz.prog := ⟨fun x => con_of (envOk (tabsOk (.c (F24_q k) (.c (F102_q k) .n))) _ _ _ _) mixed Tryz.func34 rfl rfl (F34_ev k _ some), .of (by kernel_rfl)⟩
def F146_h : Nat → Hint
 | 0 => ⟨pl 0 1 (pl 5 2 []), pl 8000 1 []⟩
 | _ => ⟨[], []⟩
abbrev F146_E (k : Nat) : Env := env noTab F146_h .own [] k
abbrev F146_A : List PA := [.one mI, .one mI]
abbrev F146_O : RO := ⟨[.v], [.sl .own (.int .u8)]⟩
noncomputable def F146_z {β : Type} (k : Nat) (v w : Int) (K : KT β) : Ex → St → Option β := endC (F146_E k) Tryz.f146 (PsT.put F146_A (v, w, ())) K
def F146_s0 (v w : Int) (x0_0 x6_0 : Int) (m8000_0 : L_u8) : St := ⟨(.one (vI x0_0)) :: dz 4 ((.one (.a (.cell 8000) 0 0 none)) :: (.one (vI x6_0)) :: dz 16 []), [eM 8000 (.s .own (.int .u8) m8000_0)]⟩
noncomputable def F146_l0_g {β : Type} (k : Nat) (v w : Int) (K : KT β) (n : Nat) (x0_0 x6_0 : Int) (m8000_0 : L_u8) : Option β := loopG (F146_E k) Tryz.f146 [1, 1, 0, 1, 0] 0 (kontAt (F146_E k) [1, 1, 0, 1, 0] (bodyOf Tryz.f146) 0 (F146_z k v w K)) n (F146_s0 v w x0_0 x6_0 m8000_0)
def F146_l0_T {β : Type} (NX : Int → Int → L_u8 → Option β) (RET : L_u8 → Option β) (k : Nat) (v w : Int) (x0_0 x6_0 : Int) (m8000_0 : L_u8) : Option β := cond (decide (x6_0 ≥ 0)) (ixc x6_0 m8000_0 (NX (x0_0.fdiv (2 ^ (8))) (i64.wrap (x6_0 - 1)) (m8000_0.set x6_0.toNat (u8.wrap x0_0)))) (RET m8000_0)
def F146_l0 (k : Nat) (v w : Int) : Nat → Int → Int → L_u8 → Option (L_u8)
 | 0, _, _, _ => none
 | n + 1, x0_0, x6_0, m8000_0 => F146_l0_T (F146_l0 k v w n) some k v w x0_0 x6_0 m8000_0
theorem F146_l0_lp {β : Type} (k : Nat) (v w : Int) (K : KT β) (n : Nat) : ∀ (x0_0 x6_0 : Int) (m8000_0 : L_u8), F146_l0_g k v w K n x0_0 x6_0 m8000_0 =
  (F146_l0 k v w n x0_0 x6_0 m8000_0).bind fun r => K (F146_O.put r) := by
 induction n with
 | zero => intros; rfl
 | succ n ih =>
  intro x0_0 x6_0 m8000_0
  refine Eq.trans (b := F146_l0_T (F146_l0_g k v w K n) (fun r => K (F146_O.put r)) k v w x0_0 x6_0 m8000_0) (by kernel_rfl) ?_
  rw [F146_l0]
  simp only [F146_l0_T, z1, z2, z3, z4, z5, ih]
def F146_T {β : Type} (LP0 : Int → Int → L_u8 → Option β) (k : Nat) (v w : Int) : Option β := cond (decide (0 ≤ w) && decide (w = w) && decide (w * (1 : Nat) ≤ 140737488355328)) (LP0 v (i64.wrap (w - 1)) (List.replicate w.toNat (dflt (.int .u8)))) none
def F146 (k : Nat) (v w : Int) : Option (L_u8) := F146_T (F146_l0 k v w k) k v w
theorem F146_ev {β : Type} (k : Nat) (v w : Int) (K : KT β) : evalF (F146_E k) Tryz.f146 (PsT.put F146_A (v, w, ())) K = (F146 k v w).bind fun r => K (F146_O.put r) :=
 Eq.trans (b := F146_T (F146_l0_g k v w K k) k v w) (by kernel_rfl) (by simp only [F146, F146_T, z1, z2, z3, z4, z5, F146_l0_lp])
def F146_d (k : Nat) : FD := ⟨146, F146_A, F146_O, F146 k⟩
theorem F146_q (k : Nat) : (F146_d k).Ok Tryz.prog := ⟨fun x => con_of (envOk .none _ _ _ _) mixed Tryz.func146 rfl rfl (F146_ev k _ _ some), .of (by kernel_rfl)⟩
abbrev F94_E (k : Nat) : Env := env (tabs [F85_d k, F146_d k]) noHint .own [] k
abbrev F94_A : List PA := [.one mI, .one mI]
abbrev F94_O : RO := ⟨[.v], [.sl .own (.int .u8)]⟩
def F94_T {β : Type} (RET : L_u8 → Option β) (k : Nat) (v w : Int) : Option β := (F85 k w 1 4).bind fun b1 => cond (!b1) (RET []) (cond (decide ((i64.wrap (8 * w)) < 0)) none ((F85 k v 0 (i64.wrap ((i64.wrap (1 * 2 ^ (min (i64.wrap (8 * w)).toNat 64))) - 1))).bind fun b2 => cond (!b2) (RET []) ((F146 k v w).bind fun b3 => RET b3)))
def F94 := F94_T (β := L_u8) some
theorem F94_ev {β : Type} (k : Nat) (v w : Int) (K : KT β) : evalF (F94_E k) Tryz.f94 (PsT.put F94_A (v, w, ())) K = (F94 k v w).bind fun r => K (F94_O.put r) :=
 Eq.trans (b := F94_T (fun r => K (F94_O.put r)) k v w) (by kernel_rfl) (by simp only [F94, F94_T, z1, z2, z3, z4, z5])
def F94_d (k : Nat) : FD := ⟨94, F94_A, F94_O, F94 k⟩
theorem F94_q (k : Nat) : (F94_d k).Ok Tryz.prog := ⟨fun x => con_of (envOk (tabsOk (.c (F85_q k) (.c (F146_q k) .n))) _ _ _ _) mixed Tryz.func94 rfl rfl (F94_ev k _ _ some), .of (by kernel_rfl)⟩
abbrev F62_E (k : Nat) : Env := env (tabs [F24_d k, F85_d k]) noHint .own [] k
abbrev F62_A : List PA := [.agg (.pair mI (.pair mI m_9)), .one mI]
abbrev F62_O : RO := ⟨[.v], [mB]⟩
def F62 (k : Nat) (v : (den fin)) (w : Int) : Option (Bool) := (F24 k v).bind fun b1 => cond b1 ((F85 k w 0 900000).bind fun b2 => some b2) (some false)
theorem F62_ev {β : Type} (k : Nat) (v : (den fin)) (w : Int) (K : KT β) : evalF (F62_E k) Tryz.f62 (PsT.put F62_A (v, w, ())) K = (F62 k v w).bind fun r => K (F62_O.put r) :=
 Eq.trans (b := (F24 k v).bind fun b1 => cond b1 ((F85 k w 0 900000).bind fun b2 => K (F62_O.put b2)) (K (F62_O.put false))) (by kernel_rfl) (by simp only [F62, z1, z2, z3, z4, z5, u_fin])
def F62_d (k : Nat) : FD := ⟨62, F62_A, F62_O, F62 k⟩
theorem F62_q (k : Nat) : (F62_d k).Ok Tryz.prog := ⟨fun x => con_of (envOk (tabsOk (.c (F24_q k) (.c (F85_q k) .n))) _ _ _ _) mixed Tryz.func62 rfl rfl (F62_ev k _ _ some), .of (by kernel_rfl)⟩
abbrev F171_E (k : Nat) : Env := env noTab noHint .own [] k
abbrev F171_A : List PA := [.one (.sl .own (.int .u8))]
abbrev F171_O : RO := ⟨[.v], [.sl .own (.int .u8)]⟩
def F171_T {β : Type} (RET : L_u8 → Option β) (k : Nat) (v : L_u8) : Option β := cond (decide (0 ≤ (v.length : Int)) && decide ((v.length : Int) ≤ (v.length : Int))) (cond (decide ((v.length : Int) = (v.length : Int))) (RET ((v.take ((v.length : Int).toNat)).drop 0)) none) none
def F171 := F171_T (β := L_u8) some
theorem F171_ev {β : Type} (k : Nat) (v : L_u8) (K : KT β) : evalF (F171_E k) Tryz.f171 (PsT.put F171_A (v, ())) K = (F171 k v).bind fun r => K (F171_O.put r) :=
 Eq.trans (b := F171_T (fun r => K (F171_O.put r)) k v) (by kernel_rfl) (by simp only [F171, F171_T, z1, z2, z3, z4, z5])
def F171_d (k : Nat) : FD := ⟨171, F171_A, F171_O, F171 k⟩
theorem F171_q (k : Nat) : (F171_d k).Ok Tryz.prog := ⟨fun x => con_of (envOk .none _ _ _ _) mixed Tryz.func171 rfl rfl (F171_ev k _ some), .of (by kernel_rfl)⟩
abbrev F148_E (k : Nat) : Env := env (tabs [F171_d k]) noHint .own [] k
abbrev F148_A : List PA := [.one (.sl .ro (.int .u8))]
abbrev F148_O : RO := ⟨[.v], [.sl .own (.int .u8)]⟩
def F148_T {β : Type} (RET : L_u8 → Option β) (k : Nat) (v : L_u8) : Option β := cond ((v.length : Int) == 0) (RET []) (szc (([] : L_u8).length) (v.length) 1 ((F171 k ([] ++ v)).bind fun b1 => RET b1))
def F148 := F148_T (β := L_u8) some
theorem F148_ev {β : Type} (k : Nat) (v : L_u8) (K : KT β) : evalF (F148_E k) Tryz.f148 (PsT.put F148_A (v, ())) K = (F148 k v).bind fun r => K (F148_O.put r) :=
 Eq.trans (b := F148_T (fun r => K (F148_O.put r)) k v) (by kernel_rfl) (by simp only [F148, F148_T, z1, z2, z3, z4, z5])
def F148_d (k : Nat) : FD := ⟨148, F148_A, F148_O, F148 k⟩
theorem F148_q (k : Nat) : (F148_d k).Ok Tryz.prog := ⟨fun x => con_of (envOk (tabsOk (.c (F171_q k) .n)) _ _ _ _) mixed Tryz.func148 rfl rfl (F148_ev k _ some), .of (by kernel_rfl)⟩
abbrev F121_E (k : Nat) : Env := env (tabs [F148_d k, F147_d k]) noHint .own [] k
abbrev F121_A : List PA := [.agg (.pair mI m_3)]
abbrev F121_O : RO := ⟨[.a], [.pair mI m_11]⟩
def F121 (k : Nat) (v : (den mth)) : Option ((den mth)) := u_mth v fun v0 v1 v2 v3 v4 => (F148 k v1).bind fun b1 => (F147 k v4).bind fun b2 => some (v0, b1, v2, v3, b2)
theorem F121_ev {β : Type} (k : Nat) (v : (den mth)) (K : KT β) : evalF (F121_E k) Tryz.f121 (PsT.put F121_A (v, ())) K = (F121 k v).bind fun r => K (F121_O.put r) :=
 Eq.trans (b := (F148 k v.2.1).bind fun b1 => (F147 k v.2.2.2.2).bind fun b2 => K (F121_O.put (v.1, b1, v.2.2.1, v.2.2.2.1, b2))) (by kernel_rfl) (by simp only [F121, z1, z2, z3, z4, z5, u_mth])
def F121_d (k : Nat) : FD := ⟨121, F121_A, F121_O, F121 k⟩
theorem F121_q (k : Nat) : (F121_d k).Ok Tryz.prog := ⟨fun x => con_of (envOk (tabsOk (.c (F148_q k) (.c (F147_q k) .n))) _ _ _ _) mixed Tryz.func121 rfl rfl (F121_ev k _ some), .of (by kernel_rfl)⟩
abbrev F173_E (k : Nat) : Env := env noTab noHint .own [] k
abbrev F173_A : List PA := [.one (.sl .own erl)]
abbrev F173_O : RO := ⟨[.v], [.sl .own erl]⟩
def F173_T {β : Type} (RET : L_erl → Option β) (k : Nat) (v : L_erl) : Option β := cond (decide (0 ≤ (v.length : Int)) && decide ((v.length : Int) ≤ (v.length : Int))) (cond (decide ((v.length : Int) = (v.length : Int))) (RET ((v.take ((v.length : Int).toNat)).drop 0)) none) none
def F173 := F173_T (β := L_erl) some
theorem F173_ev {β : Type} (k : Nat) (v : L_erl) (K : KT β) : evalF (F173_E k) Tryz.f173 (PsT.put F173_A (v, ())) K = (F173 k v).bind fun r => K (F173_O.put r) :=
 Eq.trans (b := F173_T (fun r => K (F173_O.put r)) k v) (by kernel_rfl) (by simp only [F173, F173_T, z1, z2, z3, z4, z5])
def F173_d (k : Nat) : FD := ⟨173, F173_A, F173_O, F173 k⟩
theorem F173_q (k : Nat) : (F173_d k).Ok Tryz.prog := ⟨fun x => con_of (envOk .none _ _ _ _) mixed Tryz.func173 rfl rfl (F173_ev k _ some), .of (by kernel_rfl)⟩
end
end Go.Proofs.YtjkkbmkkljpcjaaGreat.Gn
end

section
set_option linter.unusedVariables false
set_option linter.unusedSimpArgs false
namespace Go.Proofs.YtjkkbmkkljpcjaaGreat.Gn
open Go.Rf IntKind
noncomputable section
abbrev F156_E (k : Nat) : Env := env (tabs [F173_d k]) noHint .own [] k
abbrev F156_A : List PA := [.one (.sl .ro erl)]
abbrev F156_O : RO := ⟨[.v], [.sl .own erl]⟩
def F156_T {β : Type} (RET : L_erl → Option β) (k : Nat) (v : L_erl) : Option β := cond ((v.length : Int) == 0) (RET []) (szc (([] : L_erl).length) (v.length) 16 ((F173 k ([] ++ v)).bind fun b1 => RET b1))
def F156 := F156_T (β := L_erl) some
theorem F156_ev {β : Type} (k : Nat) (v : L_erl) (K : KT β) : evalF (F156_E k) Tryz.f156 (PsT.put F156_A (v, ())) K = (F156 k v).bind fun r => K (F156_O.put r) :=
 Eq.trans (b := F156_T (fun r => K (F156_O.put r)) k v) (by kernel_rfl) (by simp only [F156, F156_T, z1, z2, z3, z4, z5])
def F156_d (k : Nat) : FD := ⟨156, F156_A, F156_O, F156 k⟩
theorem F156_q (k : Nat) : (F156_d k).Ok Tryz.prog := ⟨fun x => con_of (envOk (tabsOk (.c (F173_q k) .n)) _ _ _ _) mixed Tryz.func156 rfl rfl (F156_ev k _ some), .of (by kernel_rfl)⟩
abbrev F122_E (k : Nat) : Env := env (tabs [F148_d k, F156_d k]) noHint .own [] k
abbrev F122_A : List PA := [.agg (.pair mI (.pair mI m_4))]
abbrev F122_O : RO := ⟨[.a], [.pair mI (.pair mI m_12)]⟩
def F122 (k : Nat) (v : (den ear)) : Option ((den ear)) := (F148 k v.2.2.1).bind fun b1 => (F156 k v.2.2.2).bind fun b2 => some (v.1, v.2.1, b1, b2)
theorem F122_ev {β : Type} (k : Nat) (v : (den ear)) (K : KT β) : evalF (F122_E k) Tryz.f122 (PsT.put F122_A (v, ())) K = (F122 k v).bind fun r => K (F122_O.put r) :=
 Eq.trans (b := (F148 k v.2.2.1).bind fun b1 => (F156 k v.2.2.2).bind fun b2 => K (F122_O.put (v.1, v.2.1, b1, b2))) (by kernel_rfl) (by simp only [F122, z1, z2, z3, z4, z5, u_ear])
def F122_d (k : Nat) : FD := ⟨122, F122_A, F122_O, F122 k⟩
theorem F122_q (k : Nat) : (F122_d k).Ok Tryz.prog := ⟨fun x => con_of (envOk (tabsOk (.c (F148_q k) (.c (F156_q k) .n))) _ _ _ _) mixed Tryz.func122 rfl rfl (F122_ev k _ some), .of (by kernel_rfl)⟩
abbrev F64_E (k : Nat) : Env := env (tabs [F121_d k, F122_d k]) noHint .own [] k
abbrev F64_A : List PA := [.agg (.pair mI (.pair mI m_9))]
abbrev F64_O : RO := ⟨[.a], [m_16]⟩
def F64_T {β : Type} (RET : (den fin) → Option β) (k : Nat) (v : (den fin)) : Option β := (F121 k v.2.2.2.2.2.2.1).bind fun b1 => (F122 k v.2.2.2.2.2.2.2.1).bind fun b2 => RET (v.1, v.2.1, v.2.2.1, v.2.2.2.1, v.2.2.2.2.1, v.2.2.2.2.2.1, b1, b2, v.2.2.2.2.2.2.2.2)
def F64 := F64_T (β := (den fin)) some
theorem F64_ev {β : Type} (k : Nat) (v : (den fin)) (K : KT β) : evalF (F64_E k) Tryz.f64 (PsT.put F64_A (v, ())) K = (F64 k v).bind fun r => K (F64_O.put r) :=
 Eq.trans (b := F64_T (fun r => K (F64_O.put r)) k v) (by kernel_rfl) (by simp only [F64, F64_T, z1, z2, z3, z4, z5, u_fin])
def F64_d (k : Nat) : FD := ⟨64, F64_A, F64_O, F64 k⟩
theorem F64_q (k : Nat) : (F64_d k).Ok Tryz.prog := ⟨fun x => con_of (envOk (tabsOk (.c (F121_q k) (.c (F122_q k) .n))) _ _ _ _) mixed Tryz.func64 rfl rfl (F64_ev k _ some), .of (by kernel_rfl)⟩
abbrev F103_E (k : Nat) : Env := env (tabs [F88_d k, F122_d k, F148_d k]) noHint .own [] k
abbrev F103_A : List PA := [.agg (.pair mI (.pair mI m_4)), .one mI]
abbrev F103_O : RO := ⟨[.a, .v], [.pair mI (.pair mI m_12), .sl .own (.int .u8)]⟩
def F103_T {β : Type} (RET : (den ear) × L_u8 → Option β) (k : Nat) (v : (den ear)) (w : Int) : Option β := u_ear v fun v0 v1 v2 v3 => (F88 k v).bind fun b1 => cond (!b1) (RET ((0, 0, [], []), [])) (cond (decide (w < 0)) (RET ((0, 0, [], []), [])) (cond (decide (0 ≤ (if (v2.length : Int) < w then (v2.length : Int) else w)) && decide ((if (v2.length : Int) < w then (v2.length : Int) else w) ≤ (v2.length : Int))) ((F122 k (v0, v1, v2.drop ((if (v2.length : Int) < w then (v2.length : Int) else w).toNat), v3)).bind fun b2 => cond (decide (0 ≤ (if (v2.length : Int) < w then (v2.length : Int) else w)) && decide ((if (v2.length : Int) < w then (v2.length : Int) else w) ≤ (v2.length : Int))) ((F148 k (v2.take ((if (v2.length : Int) < w then (v2.length : Int) else w).toNat))).bind fun b3 => RET (b2, b3)) none) none))
def F103 := F103_T (β := (den ear) × L_u8) some
theorem F103_ev {β : Type} (k : Nat) (v : (den ear)) (w : Int) (K : KT β) : evalF (F103_E k) Tryz.f103 (PsT.put F103_A (v, w, ())) K = (F103 k v w).bind fun r => K (F103_O.put r) :=
 Eq.trans (b := F103_T (fun r => K (F103_O.put r)) k v w) (by kernel_rfl) (by simp only [F103, F103_T, z1, z2, z3, z4, z5, u_ear])
def F103_d (k : Nat) : FD := ⟨103, F103_A, F103_O, F103 k⟩
theorem F103_q (k : Nat) : (F103_d k).Ok Tryz.prog := ⟨fun x => con_of (envOk (tabsOk (.c (F88_q k) (.c (F122_q k) (.c (F148_q k) .n)))) _ _ _ _) mixed Tryz.func103 rfl rfl (F103_ev k _ _ some), .of (by kernel_rfl)⟩
abbrev F150_E (k : Nat) : Env := env noTab noHint .own [] k
abbrev F150_A : List PA := [.one mB, .one mI]
abbrev F150_O : RO := ⟨[.v], [mI]⟩
def F150 (k : Nat) (v : Bool) (w : Int) : Option (Int) := cond v (some w) (some 0)
theorem F150_ev {β : Type} (k : Nat) (v : Bool) (w : Int) (K : KT β) : evalF (F150_E k) Tryz.f150 (PsT.put F150_A (v, w, ())) K = (F150 k v w).bind fun r => K (F150_O.put r) :=
 Eq.trans (b := cond v (K (F150_O.put w)) (K (F150_O.put 0))) (by kernel_rfl) (by simp only [F150, z1, z2, z3, z4, z5])
def F150_d (k : Nat) : FD := ⟨150, F150_A, F150_O, F150 k⟩
theorem F150_q (k : Nat) : (F150_d k).Ok Tryz.prog := ⟨fun x => con_of (envOk .none _ _ _ _) mixed Tryz.func150 rfl rfl (F150_ev k _ _ some), .of (by kernel_rfl)⟩
abbrev F152_E (k : Nat) : Env := env (tabs [F150_d k]) noHint .own [] k
abbrev F152_A : List PA := [.agg (.pair mI (.pair mI m_9))]
abbrev F152_O : RO := ⟨[.v], [mI]⟩
def F152 (k : Nat) (v : (den fin)) : Option (Int) := (F150 k v.2.2.2.2.2.2.2.2.2.1 1).bind fun b1 => some (i64.wrap ((i64.wrap (v.2.2.2.2.2.2.1.1 + v.2.2.2.2.2.2.1.2.2.1)) + b1))
theorem F152_ev {β : Type} (k : Nat) (v : (den fin)) (K : KT β) : evalF (F152_E k) Tryz.f152 (PsT.put F152_A (v, ())) K = (F152 k v).bind fun r => K (F152_O.put r) :=
 Eq.trans (b := (F150 k v.2.2.2.2.2.2.2.2.2.1 1).bind fun b1 => K (F152_O.put (i64.wrap ((i64.wrap (v.2.2.2.2.2.2.1.1 + v.2.2.2.2.2.2.1.2.2.1)) + b1)))) (by kernel_rfl) (by simp only [F152, z1, z2, z3, z4, z5, u_fin])
def F152_d (k : Nat) : FD := ⟨152, F152_A, F152_O, F152 k⟩
theorem F152_q (k : Nat) : (F152_d k).Ok Tryz.prog := ⟨fun x => con_of (envOk (tabsOk (.c (F150_q k) .n)) _ _ _ _) mixed Tryz.func152 rfl rfl (F152_ev k _ some), .of (by kernel_rfl)⟩
abbrev F37_E (k : Nat) : Env := env noTab noHint .own [] k
abbrev F37_A : List PA := [.one mI]
abbrev F37_O : RO := ⟨[.v], [mI]⟩
def F37 (k : Nat) (v : Int) : Option (Int) := some ((i64.wrap ((v.tmod 65536) + 65536)).tmod 65536)
theorem F37_ev {β : Type} (k : Nat) (v : Int) (K : KT β) : evalF (F37_E k) Tryz.f37 (PsT.put F37_A (v, ())) K = (F37 k v).bind fun r => K (F37_O.put r) :=
 Eq.trans (b := K (F37_O.put ((i64.wrap ((v.tmod 65536) + 65536)).tmod 65536))) (by kernel_rfl) (by simp only [F37, z1, z2, z3, z4, z5])
def F37_d (k : Nat) : FD := ⟨37, F37_A, F37_O, F37 k⟩
theorem F37_q (k : Nat) : (F37_d k).Ok Tryz.prog := ⟨fun x => con_of (envOk .none _ _ _ _) mixed Tryz.func37 rfl rfl (F37_ev k _ some), .of (by kernel_rfl)⟩
abbrev F157_E (k : Nat) : Env := env noTab noHint .own [] k
abbrev F157_A : List PA := [.agg (.pair mI (.pair mI m_9))]
abbrev F157_O : RO := ⟨[.v], [mI]⟩
def F157 (k : Nat) (v : (den fin)) : Option (Int) := cond (v.2.2.2.2.2.2.2.2.2.2.2.1 == v.2.2.2.2.2.2.2.1.1) (some (i64.wrap (v.2.2.2.2.2.2.2.1.1 + 1))) (some v.2.2.2.2.2.2.2.1.1)
theorem F157_ev {β : Type} (k : Nat) (v : (den fin)) (K : KT β) : evalF (F157_E k) Tryz.f157 (PsT.put F157_A (v, ())) K = (F157 k v).bind fun r => K (F157_O.put r) :=
 Eq.trans (b := cond (v.2.2.2.2.2.2.2.2.2.2.2.1 == v.2.2.2.2.2.2.2.1.1) (K (F157_O.put (i64.wrap (v.2.2.2.2.2.2.2.1.1 + 1)))) (K (F157_O.put v.2.2.2.2.2.2.2.1.1))) (by kernel_rfl) (by simp only [F157, z1, z2, z3, z4, z5, u_fin])
def F157_d (k : Nat) : FD := ⟨157, F157_A, F157_O, F157 k⟩
theorem F157_q (k : Nat) : (F157_d k).Ok Tryz.prog := ⟨fun x => con_of (envOk .none _ _ _ _) mixed Tryz.func157 rfl rfl (F157_ev k _ some), .of (by kernel_rfl)⟩
def F172_h : Nat → Hint
 | 0 => ⟨(3, .own .own rng []) :: (pl 8 3 []), []⟩
 | _ => ⟨[], []⟩
abbrev F172_E (k : Nat) : Env := env (tabs [F147_d k]) F172_h .own [] k
abbrev F172_A : List PA := [.agg (.pair mI (.pair mI m_4))]
abbrev F172_O : RO := ⟨[.v], [.sl .own rng]⟩
noncomputable def F172_z {β : Type} (k : Nat) (v : (den ear)) (K : KT β) : Ex → St → Option β := endC (F172_E k) Tryz.f172 (PsT.put F172_A (v, ())) K
def F172_s0 (v : (den ear)) (x10_0 : Int) (m3900_0 : L_rng) : St := ⟨dz 3 ((.one (.a (.cell 3900) 0 0 none)) :: dz 4 ((.one (.s .ro erl v.2.2.2)) :: (.one (vI (v.2.2.2.length : Int))) :: (.one (vI x10_0)) :: dz 43 [])), [eM 3900 (.s .own rng m3900_0)]⟩
noncomputable def F172_l0_g {β : Type} (k : Nat) (v : (den ear)) (K : KT β) (n : Nat) (x10_0 : Int) (m3900_0 : L_rng) : Option β := loopG (F172_E k) Tryz.f172 [1, 1, 0, 1, 0] 0 (kontAt (F172_E k) [1, 1, 0, 1, 0] (bodyOf Tryz.f172) 0 (F172_z k v K)) n (F172_s0 v x10_0 m3900_0)
def F172_l0_j1 {β : Type} (k : Nat) (v : (den ear)) (NX : Int → L_rng → Option β) (RET : L_rng → Option β) (m3900_0 : L_rng) (x10_0 : Int) : Option β := szc (m3900_0.length) ([((atI v.2.2.2 x10_0).1, i64.wrap ((atI v.2.2.2 x10_0).1 + 1))].length) 16 (NX (i64.wrap (x10_0 + 1)) (m3900_0 ++ [((atI v.2.2.2 x10_0).1, i64.wrap ((atI v.2.2.2 x10_0).1 + 1))]))
def F172_l0_T {β : Type} (NX : Int → L_rng → Option β) (RET : L_rng → Option β) (k : Nat) (v : (den ear)) (x10_0 : Int) (m3900_0 : L_rng) : Option β := cond (decide (x10_0 < (v.2.2.2.length : Int))) (ixc x10_0 v.2.2.2 (cond (decide ((m3900_0.length : Int) > 0)) (ixc (i64.wrap ((m3900_0.length : Int) - 1)) m3900_0 (cond ((atI m3900_0 (i64.wrap ((m3900_0.length : Int) - 1))).2 == (atI v.2.2.2 x10_0).1) (ixc (i64.wrap ((m3900_0.length : Int) - 1)) m3900_0 (ixc (i64.wrap ((m3900_0.length : Int) - 1)) m3900_0 (NX (i64.wrap (x10_0 + 1)) (m3900_0.set ((i64.wrap ((m3900_0.length : Int) - 1)).toNat) ((atI m3900_0 (i64.wrap ((m3900_0.length : Int) - 1))).1, i64.wrap ((atI m3900_0 (i64.wrap ((m3900_0.length : Int) - 1))).2 + 1)))))) (F172_l0_j1 k v NX RET m3900_0 x10_0))) (F172_l0_j1 k v NX RET m3900_0 x10_0))) (cond (decide (0 ≤ (if 2 < (m3900_0.length : Int) then 2 else (m3900_0.length : Int))) && decide ((if 2 < (m3900_0.length : Int) then 2 else (m3900_0.length : Int)) ≤ (m3900_0.length : Int))) ((F147 k ((m3900_0.take ((if 2 < (m3900_0.length : Int) then 2 else (m3900_0.length : Int)).toNat)).drop 0)).bind fun b1 => RET b1) none)
def F172_l0 (k : Nat) (v : (den ear)) : Nat → Int → L_rng → Option (L_rng)
 | 0, _, _ => none
 | n + 1, x10_0, m3900_0 => F172_l0_T (F172_l0 k v n) some k v x10_0 m3900_0
theorem F172_l0_lp {β : Type} (k : Nat) (v : (den ear)) (K : KT β) (n : Nat) : ∀ (x10_0 : Int) (m3900_0 : L_rng), F172_l0_g k v K n x10_0 m3900_0 =
  (F172_l0 k v n x10_0 m3900_0).bind fun r => K (F172_O.put r) := by
 induction n with
 | zero => intros; rfl
 | succ n ih =>
  intro x10_0 m3900_0
  refine Eq.trans (b := F172_l0_T (F172_l0_g k v K n) (fun r => K (F172_O.put r)) k v x10_0 m3900_0) (by kernel_rfl) ?_
  rw [F172_l0]
  simp only [F172_l0_T, F172_l0_j1, z1, z2, z3, z4, z5, u_ear, ih]
def F172_T {β : Type} (LP0 : Int → L_rng → Option β) (k : Nat) (v : (den ear)) : Option β := LP0 0 []
def F172 (k : Nat) (v : (den ear)) : Option (L_rng) := F172_T (F172_l0 k v k) k v
theorem F172_ev {β : Type} (k : Nat) (v : (den ear)) (K : KT β) : evalF (F172_E k) Tryz.f172 (PsT.put F172_A (v, ())) K = (F172 k v).bind fun r => K (F172_O.put r) :=
 Eq.trans (b := F172_T (F172_l0_g k v K k) k v) (by kernel_rfl) (by simp only [F172, F172_T, z1, z2, z3, z4, z5, u_ear, F172_l0_lp])
def F172_d (k : Nat) : FD := ⟨172, F172_A, F172_O, F172 k⟩
theorem F172_q (k : Nat) : (F172_d k).Ok Tryz.prog := ⟨fun x => con_of (envOk (tabsOk (.c (F147_q k) .n)) _ _ _ _) mixed Tryz.func172 rfl rfl (F172_ev k _ some), .of (by kernel_rfl)⟩
abbrev F148_2_E (k : Nat) : Env := env noTab noHint .own [] k
abbrev F148_2_A : List PA := [.one (.nil (.int .u8))]
abbrev F148_2_O : RO := ⟨[.v], [.sl .own (.int .u8)]⟩
def F148_2 (k : Nat) (v : L_u8) : Option (L_u8) := some []
theorem F148_2_ev {β : Type} (k : Nat) (v : L_u8) (K : KT β) : evalF (F148_2_E k) Tryz.f148 (PsT.put F148_2_A (v, ())) K = (F148_2 k v).bind fun r => K (F148_2_O.put r) :=
 Eq.trans (b := K (F148_2_O.put [])) (by kernel_rfl) (by simp only [F148_2, z1, z2, z3, z4, z5])
def F148_2_d (k : Nat) : FD := ⟨148, F148_2_A, F148_2_O, F148_2 k⟩
theorem F148_2_q (k : Nat) : (F148_2_d k).Ok Tryz.prog := ⟨fun x => con_of (envOk .none _ _ _ _) mixed Tryz.func148 rfl rfl (F148_2_ev k _ some), .of (by kernel_rfl)⟩
abbrev F96_E (k : Nat) : Env := env (tabs [F147_d k, F148_2_d k]) noHint .own [] k
abbrev F96_A : List PA := [.agg m_28]
abbrev F96_O : RO := ⟨[.a], [m_20]⟩
def F96_T {β : Type} (RET : (den seg) → Option β) (k : Nat) (v : (den seg)) : Option β := u_seg v fun v0 v1 v2 v3 v4 v5 v6 v7 v8 v9 _ => (F147 k v9).bind fun b1 => (F148_2 k []).bind fun b2 => RET (v0, v1, v2, v3, v4, v5, v6, v7, v8, b1, b2)
def F96 := F96_T (β := (den seg)) some
theorem F96_ev {β : Type} (k : Nat) (v : (den seg)) (K : KT β) : evalF (F96_E k) Tryz.f96 (PsT.put F96_A (v, ())) K = (F96 k v).bind fun r => K (F96_O.put r) :=
 Eq.trans (b := F96_T (fun r => K (F96_O.put r)) k v) (by kernel_rfl) (by simp only [F96, F96_T, z1, z2, z3, z4, z5, u_seg])
def F96_d (k : Nat) : FD := ⟨96, F96_A, F96_O, F96 k⟩
theorem F96_q (k : Nat) : (F96_d k).Ok Tryz.prog := ⟨fun x => con_of (envOk (tabsOk (.c (F147_q k) (.c (F148_2_q k) .n))) _ _ _ _) mixed Tryz.func96 rfl rfl (F96_ev k _ some), .of (by kernel_rfl)⟩
def F151_h : Nat → Hint
 | 0 => ⟨pl 6 2 (pl 26 3 []), pl 6000 11 (pl 7000 9 ((7009, .own .own rng []) :: (pl 7010 1 (pl 26000 1 []))))⟩
 | _ => ⟨[], []⟩
abbrev F151_E (k : Nat) : Env := env (tabs [F37_d k, F157_d k, F104_d k, F172_d k, F96_d k]) F151_h .own [] k
abbrev F151_A : List PA := [.agg (.pair mI (.pair mI m_9)), .one mI, .one (.nil (.int .u8))]
abbrev F151_O : RO := ⟨[.a], [m_20]⟩
noncomputable def F151_z {β : Type} (k : Nat) (v : (den fin)) (w : Int) (p : L_u8) (K : KT β) : Ex → St → Option β := endC (F151_E k) Tryz.f151 (PsT.put F151_A (v, w, p, ())) K
def F151_s0 (v : (den fin)) (w : Int) (p : L_u8) (x27_0 x28_0 m7002_0 m7003_0 m7004_0 : Int) (m7009_0 m26000_0 : L_rng) : St := ⟨dz 6 ((.one (.ptr (.cell 6000) 11 0)) :: (.one (.ptr (.cell 7000) 11 0)) :: dz 18 ((.one (.a (.cell 26000) 0 0 none)) :: (.one (vI x27_0)) :: (.one (vI x28_0)) :: dz 18 [])), rowE 6000 (lsM m_20 (0, 0, 0, 0, 0, false, false, false, false, [], [])) (rowE 7000 (lsM m_32 (v.2.2.1, v.2.2.2.2.1, m7002_0, m7003_0, m7004_0, false, true, false, false, m7009_0, [])) [eM 26000 (.s .own rng m26000_0)])⟩
noncomputable def F151_l0_g {β : Type} (k : Nat) (v : (den fin)) (w : Int) (p : L_u8) (K : KT β) (n : Nat) (x27_0 x28_0 m7002_0 m7003_0 m7004_0 : Int) (m7009_0 m26000_0 : L_rng) : Option β := loopG (F151_E k) Tryz.f151 [1, 1, 0, 1, 0] 0 (kontAt (F151_E k) [1, 1, 0, 1, 0] (bodyOf Tryz.f151) 0 (F151_z k v w p K)) n (F151_s0 v w p x27_0 x28_0 m7002_0 m7003_0 m7004_0 m7009_0 m26000_0)
def F151_l0_T {β : Type} (NX : Int → Int → Int → Int → Int → L_rng → L_rng → Option β) (RET : (den seg) → Option β) (k : Nat) (v : (den fin)) (w : Int) (p : L_u8) (x27_0 x28_0 m7002_0 m7003_0 m7004_0 : Int) (m7009_0 m26000_0 : L_rng) : Option β := cond (decide (x28_0 < x27_0)) (ixc x28_0 m26000_0 ((F37 k (atI m26000_0 x28_0).1).bind fun b6 => (F37 k (atI m26000_0 x28_0).2).bind fun b7 => szc (m7009_0.length) ([(b6, b7)].length) 16 (NX x27_0 (i64.wrap (x28_0 + 1)) m7002_0 m7003_0 m7004_0 (m7009_0 ++ [(b6, b7)]) m26000_0))) ((F96 k (v.2.2.1, v.2.2.2.2.1, m7002_0, m7003_0, m7004_0, false, true, false, false, m7009_0, [])).bind fun b8 => RET b8)
def F151_l0 (k : Nat) (v : (den fin)) (w : Int) (p : L_u8) : Nat → Int → Int → Int → Int → Int → L_rng → L_rng → Option ((den seg))
 | 0, _, _, _, _, _, _, _ => none
 | n + 1, x27_0, x28_0, m7002_0, m7003_0, m7004_0, m7009_0, m26000_0 => F151_l0_T (F151_l0 k v w p n) some k v w p x27_0 x28_0 m7002_0 m7003_0 m7004_0 m7009_0 m26000_0
theorem F151_l0_lp {β : Type} (k : Nat) (v : (den fin)) (w : Int) (p : L_u8) (K : KT β) (n : Nat) : ∀ (x27_0 x28_0 m7002_0 m7003_0 m7004_0 : Int) (m7009_0 m26000_0 : L_rng), F151_l0_g k v w p K n x27_0 x28_0 m7002_0 m7003_0 m7004_0 m7009_0 m26000_0 =
  (F151_l0 k v w p n x27_0 x28_0 m7002_0 m7003_0 m7004_0 m7009_0 m26000_0).bind fun r => K (F151_O.put r) := by
 induction n with
 | zero => intros; rfl
 | succ n ih =>
  intro x27_0 x28_0 m7002_0 m7003_0 m7004_0 m7009_0 m26000_0
  refine Eq.trans (b := F151_l0_T (F151_l0_g k v w p K n) (fun r => K (F151_O.put r)) k v w p x27_0 x28_0 m7002_0 m7003_0 m7004_0 m7009_0 m26000_0) (by kernel_rfl) ?_
  rw [F151_l0]
  simp only [F151_l0_T, z1, z2, z3, z4, z5, u_fin, ih]
def F151_T {β : Type} (LP0 : Int → Int → Int → Int → Int → L_rng → L_rng → Option β) (k : Nat) (v : (den fin)) (w : Int) (p : L_u8) : Option β := (F37 k w).bind fun b1 => (F157 k v).bind fun b2 => (F37 k b2).bind fun b3 => (F104 k v.2.2.2.2.2.2.2.1).bind fun b4 => (F172 k v.2.2.2.2.2.2.2.1).bind fun b5 => LP0 (b5.length : Int) 0 b1 b3 b4 [] b5
def F151 (k : Nat) (v : (den fin)) (w : Int) (p : L_u8) : Option ((den seg)) := F151_T (F151_l0 k v w p k) k v w p
theorem F151_ev {β : Type} (k : Nat) (v : (den fin)) (w : Int) (p : L_u8) (K : KT β) : evalF (F151_E k) Tryz.f151 (PsT.put F151_A (v, w, p, ())) K = (F151 k v w p).bind fun r => K (F151_O.put r) :=
 Eq.trans (b := F151_T (F151_l0_g k v w p K k) k v w p) (by kernel_rfl) (by simp only [F151, F151_T, z1, z2, z3, z4, z5, u_fin, F151_l0_lp])
def F151_d (k : Nat) : FD := ⟨151, F151_A, F151_O, F151 k⟩
theorem F151_q (k : Nat) : (F151_d k).Ok Tryz.prog := ⟨fun x => con_of (envOk (tabsOk (.c (F37_q k) (.c (F157_q k) (.c (F104_q k) (.c (F172_q k) (.c (F96_q k) .n)))))) _ _ _ _) mixed Tryz.func151 rfl rfl (F151_ev k _ _ _ some), .of (by kernel_rfl)⟩
abbrev F105_E (k : Nat) : Env := env (tabs [F152_d k, F151_d k]) noHint .own [] k
abbrev F105_A : List PA := [.agg (.pair mI (.pair mI m_9))]
abbrev F105_O : RO := ⟨[.a], [m_20]⟩
def F105 (k : Nat) (v : (den fin)) : Option ((den seg)) := (F152 k v).bind fun b1 => (F151 k v b1 []).bind fun b2 => some b2
theorem F105_ev {β : Type} (k : Nat) (v : (den fin)) (K : KT β) : evalF (F105_E k) Tryz.f105 (PsT.put F105_A (v, ())) K = (F105 k v).bind fun r => K (F105_O.put r) :=
 Eq.trans (b := (F152 k v).bind fun b1 => (F151 k v b1 []).bind fun b2 => K (F105_O.put b2)) (by kernel_rfl) (by simp only [F105, z1, z2, z3, z4, z5, u_fin])
def F105_d (k : Nat) : FD := ⟨105, F105_A, F105_O, F105 k⟩
theorem F105_q (k : Nat) : (F105_d k).Ok Tryz.prog := ⟨fun x => con_of (envOk (tabsOk (.c (F152_q k) (.c (F151_q k) .n))) _ _ _ _) mixed Tryz.func105 rfl rfl (F105_ev k _ some), .of (by kernel_rfl)⟩
abbrev F36_E (k : Nat) : Env := env (tabs [F62_d k, F64_d k, F103_d k, F104_d k, F105_d k]) noHint .own [] k
abbrev F36_A : List PA := [.agg (.pair mI (.pair mI m_9)), .one mI, .one mI]
abbrev F36_O : RO := ⟨[.a, .v, .v], [m_16, .sl .own (.int .u8), .sl .own seg]⟩
def F36_T {β : Type} (RET : (den fin) × L_u8 × L_seg → Option β) (k : Nat) (v : (den fin)) (w p : Int) : Option β := (F62 k v p).bind fun b1 => cond (!b1) (RET ((0, 0, 0, 0, 0, 0, (0, [], 0, 0, []), (0, 0, [], []), false, false, false, 0, 0, 0, 0, 0, 0), [], [])) (cond (decide (w < 0)) (RET ((0, 0, 0, 0, 0, 0, (0, [], 0, 0, []), (0, 0, [], []), false, false, false, 0, 0, 0, 0, 0, 0), [], [])) ((F64 k v).bind fun b2 => (F103 k b2.2.2.2.2.2.2.2.1 w).bind fun b3 => cond (v.1 == 4) ((F104 k v.2.2.2.2.2.2.2.1).bind fun b4 => cond (b4 == 0) ((F104 k b3.1).bind fun b5 => cond (decide (b5 > 0)) ((F105 k (b2.1, b2.2.1, b2.2.2.1, b2.2.2.2.1, b2.2.2.2.2.1, b2.2.2.2.2.2.1, b2.2.2.2.2.2.2.1, b3.1, b2.2.2.2.2.2.2.2.2)).bind fun b6 => RET ((b2.1, b2.2.1, b2.2.2.1, b2.2.2.2.1, b2.2.2.2.2.1, b2.2.2.2.2.2.1, b2.2.2.2.2.2.2.1, b3.1, b2.2.2.2.2.2.2.2.2), b3.2, [b6])) (RET ((b2.1, b2.2.1, b2.2.2.1, b2.2.2.2.1, b2.2.2.2.2.1, b2.2.2.2.2.2.1, b2.2.2.2.2.2.2.1, b3.1, b2.2.2.2.2.2.2.2.2), b3.2, []))) (RET ((b2.1, b2.2.1, b2.2.2.1, b2.2.2.2.1, b2.2.2.2.2.1, b2.2.2.2.2.2.1, b2.2.2.2.2.2.2.1, b3.1, b2.2.2.2.2.2.2.2.2), b3.2, []))) (RET ((b2.1, b2.2.1, b2.2.2.1, b2.2.2.2.1, b2.2.2.2.2.1, b2.2.2.2.2.2.1, b2.2.2.2.2.2.2.1, b3.1, b2.2.2.2.2.2.2.2.2), b3.2, []))))
def F36 := F36_T (β := (den fin) × L_u8 × L_seg) some
theorem F36_ev {β : Type} (k : Nat) (v : (den fin)) (w p : Int) (K : KT β) : evalF (F36_E k) Tryz.f36 (PsT.put F36_A (v, w, p, ())) K = (F36 k v w p).bind fun r => K (F36_O.put r) :=
 Eq.trans (b := F36_T (fun r => K (F36_O.put r)) k v w p) (by kernel_rfl) (by simp only [F36, F36_T, z1, z2, z3, z4, z5, u_fin])
def F36_d (k : Nat) : FD := ⟨36, F36_A, F36_O, F36 k⟩
theorem F36_q (k : Nat) : (F36_d k).Ok Tryz.prog := ⟨fun x => con_of (envOk (tabsOk (.c (F62_q k) (.c (F64_q k) (.c (F103_q k) (.c (F104_q k) (.c (F105_q k) .n)))))) _ _ _ _) mixed Tryz.func36 rfl rfl (F36_ev k _ _ _ some), .of (by kernel_rfl)⟩
abbrev F93_E (k : Nat) : Env := env (tabs [F63_d k]) noHint .own [] k
abbrev F93_A : List PA := [.agg (.pair mI mI)]
abbrev F93_O : RO := ⟨[.v], [mB]⟩
def F93 (k : Nat) (v : (den rng)) : Option (Bool) := (F63 k v.1).bind fun b1 => cond (!b1) (some true) ((F63 k v.2).bind fun b2 => some (!b2))
theorem F93_ev {β : Type} (k : Nat) (v : (den rng)) (K : KT β) : evalF (F93_E k) Tryz.f93 (PsT.put F93_A (v, ())) K = (F93 k v).bind fun r => K (F93_O.put r) :=
 Eq.trans (b := (F63 k v.1).bind fun b1 => cond (!b1) (K (F93_O.put true)) ((F63 k v.2).bind fun b2 => K (F93_O.put (!b2)))) (by kernel_rfl) (by simp only [F93, z1, z2, z3, z4, z5])
def F93_d (k : Nat) : FD := ⟨93, F93_A, F93_O, F93 k⟩
theorem F93_q (k : Nat) : (F93_d k).Ok Tryz.prog := ⟨fun x => con_of (envOk (tabsOk (.c (F63_q k) .n)) _ _ _ _) mixed Tryz.func93 rfl rfl (F93_ev k _ some), .of (by kernel_rfl)⟩
def F145_h : Nat → Hint
 | 0 => ⟨pl 0 2 (pl 7 2 []), []⟩
 | _ => ⟨[], []⟩
abbrev F145_E (k : Nat) : Env := env (tabs [F93_d k]) F145_h .own [] k
abbrev F145_A : List PA := [.one (.sl .ro rng), .fn 93]
abbrev F145_O : RO := ⟨[.v], [mI]⟩
noncomputable def F145_z {β : Type} (k : Nat) (v : L_rng) (K : KT β) : Ex → St → Option β := endC (F145_E k) Tryz.f145 (PsT.put F145_A (v, (), ())) K
def F145_s0 (v : L_rng) (x8_0 : Int) : St := ⟨(.one (.s .ro rng v)) :: (.one (.fn 93 [])) :: dz 5 ((.one (vI (v.length : Int))) :: (.one (vI x8_0)) :: dz 10 []), []⟩
noncomputable def F145_l0_g {β : Type} (k : Nat) (v : L_rng) (K : KT β) (n : Nat) (x8_0 : Int) : Option β := loopG (F145_E k) Tryz.f145 [1, 0, 1, 0] 0 (kontAt (F145_E k) [1, 0, 1, 0] (bodyOf Tryz.f145) 0 (F145_z k v K)) n (F145_s0 v x8_0)
def F145_l0_T {β : Type} (NX : Int → Option β) (RET : Int → Option β) (k : Nat) (v : L_rng) (x8_0 : Int) : Option β := cond (decide (x8_0 < (v.length : Int))) (ixc x8_0 v ((F93 k (atI v x8_0)).bind fun b1 => cond b1 (RET x8_0) (NX (i64.wrap (x8_0 + 1))))) (RET (-1))
def F145_l0 (k : Nat) (v : L_rng) : Nat → Int → Option (Int)
 | 0, _ => none
 | n + 1, x8_0 => F145_l0_T (F145_l0 k v n) some k v x8_0
theorem F145_l0_lp {β : Type} (k : Nat) (v : L_rng) (K : KT β) (n : Nat) : ∀ (x8_0 : Int), F145_l0_g k v K n x8_0 =
  (F145_l0 k v n x8_0).bind fun r => K (F145_O.put r) := by
 induction n with
 | zero => intros; rfl
 | succ n ih =>
  intro x8_0
  refine Eq.trans (b := F145_l0_T (F145_l0_g k v K n) (fun r => K (F145_O.put r)) k v x8_0) (by kernel_rfl) ?_
  rw [F145_l0]
  simp only [F145_l0_T, z1, z2, z3, z4, z5, ih]
def F145_T {β : Type} (LP0 : Int → Option β) (k : Nat) (v : L_rng) : Option β := LP0 0
def F145 (k : Nat) (v : L_rng) : Option (Int) := F145_T (F145_l0 k v k) k v
theorem F145_ev {β : Type} (k : Nat) (v : L_rng) (K : KT β) : evalF (F145_E k) Tryz.f145 (PsT.put F145_A (v, (), ())) K = (F145 k v).bind fun r => K (F145_O.put r) :=
 Eq.trans (b := F145_T (F145_l0_g k v K k) k v) (by kernel_rfl) (by simp only [F145, F145_T, z1, z2, z3, z4, z5, F145_l0_lp])
def F145_d (k : Nat) : FD := ⟨145, F145_A, F145_O, F145 k⟩
theorem F145_q (k : Nat) : (F145_d k).Ok Tryz.prog := ⟨fun x => con_of (envOk (tabsOk (.c (F93_q k) .n)) _ _ _ _) mixed Tryz.func145 rfl rfl (F145_ev k _ some), .of (by kernel_rfl)⟩
abbrev F92_E (k : Nat) : Env := env (tabs [F145_d k]) noHint .own [] k
abbrev F92_A : List PA := [.one (.sl .ro rng), .fn 93]
abbrev F92_O : RO := ⟨[.v], [mB]⟩
def F92 (k : Nat) (v : L_rng) : Option (Bool) := (F145 k v).bind fun b1 => some (decide (b1 ≥ 0))
theorem F92_ev {β : Type} (k : Nat) (v : L_rng) (K : KT β) : evalF (F92_E k) Tryz.f92 (PsT.put F92_A (v, (), ())) K = (F92 k v).bind fun r => K (F92_O.put r) :=
 Eq.trans (b := (F145 k v).bind fun b1 => K (F92_O.put (decide (b1 ≥ 0)))) (by kernel_rfl) (by simp only [F92, z1, z2, z3, z4, z5])
def F92_d (k : Nat) : FD := ⟨92, F92_A, F92_O, F92 k⟩
theorem F92_q (k : Nat) : (F92_d k).Ok Tryz.prog := ⟨fun x => con_of (envOk (tabsOk (.c (F145_q k) .n)) _ _ _ _) mixed Tryz.func92 rfl rfl (F92_ev k _ some), .of (by kernel_rfl)⟩
abbrev F25_E (k : Nat) : Env := env (tabs [F86_d k, F63_d k, F85_d k, F92_d k]) noHint .own [] k
abbrev F25_A : List PA := [.agg m_24]
abbrev F25_O : RO := ⟨[.v], [mB]⟩
def F25_T {β : Type} (RET : Bool → Option β) (k : Nat) (v : (den seg)) : Option β := u_seg v fun v0 v1 v2 v3 v4 v5 v6 v7 v8 v9 v10 => (F86 k v0).bind fun b1 => cond (!b1) (RET false) ((F86 k v1).bind fun b2 => cond (!b2) (RET false) ((F63 k v2).bind fun b3 => cond (!b3) (RET false) ((F63 k v3).bind fun b4 => cond (!b4) (RET false) ((F85 k v4 0 255).bind fun b5 => cond (!b5) (RET false) (cond (decide ((v9.length : Int) > 2)) (RET false) (cond (decide ((v10.length : Int) > 12)) (RET false) ((F92 k v9).bind fun b6 => cond b6 (RET false) (cond (!v6) (cond (v3 != 0) (RET false) (cond (v4 != 0) (RET false) (cond (decide ((v9.length : Int) > 0)) (RET false) (cond (!v8) (RET true) (cond (!v5) (cond (!v7) (RET ((v10.length : Int) == 0)) (RET false)) (RET false)))))) (cond (!v8) (RET true) (cond (!v5) (cond (!v7) (RET ((v10.length : Int) == 0)) (RET false)) (RET false)))))))))))
def F25 := F25_T (β := Bool) some
theorem F25_ev {β : Type} (k : Nat) (v : (den seg)) (K : KT β) : evalF (F25_E k) Tryz.f25 (PsT.put F25_A (v, ())) K = (F25 k v).bind fun r => K (F25_O.put r) :=
 Eq.trans (b := F25_T (fun r => K (F25_O.put r)) k v) (by kernel_rfl) (by simp only [F25, F25_T, z1, z2, z3, z4, z5, u_seg])
def F25_d (k : Nat) : FD := ⟨25, F25_A, F25_O, F25 k⟩
theorem F25_q (k : Nat) : (F25_d k).Ok Tryz.prog := ⟨fun x => con_of (envOk (tabsOk (.c (F86_q k) (.c (F63_q k) (.c (F85_q k) (.c (F92_q k) .n))))) _ _ _ _) mixed Tryz.func25 rfl rfl (F25_ev k _ some), .of (by kernel_rfl)⟩
abbrev F125_E (k : Nat) : Env := env (tabs [F37_d k]) noHint .own [] k
abbrev F125_A : List PA := [.agg (.pair mI (.pair mI m_9)), .agg m_24]
abbrev F125_O : RO := ⟨[.v], [mB]⟩
def F125 (k : Nat) (v : (den fin)) (w : (den seg)) : Option (Bool) := cond w.2.2.2.2.2.2.1 ((F37 k (i64.wrap (v.2.2.2.2.2.1 + 1))).bind fun b1 => some (w.2.2.2.1 == b1)) (some false)
theorem F125_ev {β : Type} (k : Nat) (v : (den fin)) (w : (den seg)) (K : KT β) : evalF (F125_E k) Tryz.f125 (PsT.put F125_A (v, w, ())) K = (F125 k v w).bind fun r => K (F125_O.put r) :=
 Eq.trans (b := cond w.2.2.2.2.2.2.1 ((F37 k (i64.wrap (v.2.2.2.2.2.1 + 1))).bind fun b1 => K (F125_O.put (w.2.2.2.1 == b1))) (K (F125_O.put false))) (by kernel_rfl) (by simp only [F125, z1, z2, z3, z4, z5, u_fin, u_seg])
def F125_d (k : Nat) : FD := ⟨125, F125_A, F125_O, F125 k⟩
theorem F125_q (k : Nat) : (F125_d k).Ok Tryz.prog := ⟨fun x => con_of (envOk (tabsOk (.c (F37_q k) .n)) _ _ _ _) mixed Tryz.func125 rfl rfl (F125_ev k _ _ some), .of (by kernel_rfl)⟩
abbrev F123_E (k : Nat) : Env := env (tabs [F125_d k, F157_d k, F37_d k]) noHint .own [(false, 0), (false, 1), (false, 2), (false, 3), (false, 4), (false, 5), (false, 6), (false, 7), (false, 8), (false, 9), (false, 10), (false, 11), (false, 12), (false, 13), (false, 14), (false, 15), (false, 16), (false, 17), (false, 18), (false, 19), (false, 20), (false, 21), (false, 22), (false, 23)] k
abbrev F123_A : List PA := [.p m_16, .agg m_24]
abbrev F123_O : RO := ⟨[], [m_16]⟩
def F123_j2 {β : Type} (k : Nat) (v : (den fin)) (w : (den seg)) (RET : (den fin) → Option β) : Option β := (F157 k v).bind fun b2 => (F37 k b2).bind fun b3 => cond (w.2.2.1 == b3) (RET (5, v.2.1, v.2.2.1, v.2.2.2.1, v.2.2.2.2.1, v.2.2.2.2.2.1, v.2.2.2.2.2.2.1, v.2.2.2.2.2.2.2.1, v.2.2.2.2.2.2.2.2.1, v.2.2.2.2.2.2.2.2.2.1, v.2.2.2.2.2.2.2.2.2.2.1, v.2.2.2.2.2.2.2.2.2.2.2.1, 0, v.2.2.2.2.2.2.2.2.2.2.2.2.2)) (RET v)
def F123_j1 {β : Type} (k : Nat) (v : (den fin)) (w : (den seg)) (RET : (den fin) → Option β) : Option β := cond (v.1 == 3) (F123_j2 k v w RET) (cond (v.1 == 4) (F123_j2 k v w RET) (RET v))
def F123_T {β : Type} (RET : (den fin) → Option β) (k : Nat) (v : (den fin)) (w : (den seg)) : Option β := cond (v.1 == 2) ((F125 k v w).bind fun b1 => cond b1 (RET (5, v.2.1, v.2.2.1, v.2.2.2.1, v.2.2.2.2.1, v.2.2.2.2.2.1, v.2.2.2.2.2.2.1, v.2.2.2.2.2.2.2.1, v.2.2.2.2.2.2.2.2.1, v.2.2.2.2.2.2.2.2.2.1, v.2.2.2.2.2.2.2.2.2.2.1, v.2.2.2.2.2.2.2.2.2.2.2.1, 0, v.2.2.2.2.2.2.2.2.2.2.2.2.2)) (F123_j1 k v w RET)) (F123_j1 k v w RET)
def F123 := F123_T (β := (den fin)) some
theorem F123_ev {β : Type} (k : Nat) (v : (den fin)) (w : (den seg)) (K : KT β) : evalF (F123_E k) Tryz.f123 (PsT.put F123_A (v, w, ())) K = (F123 k v w).bind fun r => K (F123_O.put r) :=
 Eq.trans (b := F123_T (fun r => K (F123_O.put r)) k v w) (by kernel_rfl) (by simp only [F123, F123_T, F123_j2, F123_j1, z1, z2, z3, z4, z5, u_fin, u_seg])
def F123_d (k : Nat) : FD := ⟨123, F123_A, F123_O, F123 k⟩
theorem F123_q (k : Nat) : (F123_d k).Ok Tryz.prog := ⟨fun x => con_of (envOk (tabsOk (.c (F125_q k) (.c (F157_q k) (.c (F37_q k) .n)))) _ _ _ _) mixed Tryz.func123 rfl rfl (F123_ev k _ _ some), .of (by kernel_rfl)⟩
abbrev F158_E (k : Nat) : Env := env noTab noHint .own [(false, 0), (false, 1), (false, 2), (false, 3), (false, 4), (false, 5), (false, 6), (false, 7), (false, 8), (false, 9), (false, 10), (false, 11), (false, 12), (false, 13), (false, 14), (false, 15), (false, 16), (false, 17), (false, 18), (false, 19), (false, 20), (false, 21), (false, 22), (false, 23)] k
abbrev F158_A : List PA := [.p m_16, .agg m_24]
abbrev F158_O : RO := ⟨[], [m_16]⟩
def F158_T {β : Type} (RET : (den fin) → Option β) (k : Nat) (v : (den fin)) (w : (den seg)) : Option β := RET (v.1, v.2.1, v.2.2.1, v.2.2.2.1, v.2.2.2.2.1, v.2.2.2.2.2.1, v.2.2.2.2.2.2.1, (i64.wrap (w.2.2.1 + 1), v.2.2.2.2.2.2.2.1.2.1, v.2.2.2.2.2.2.2.1.2.2.1, v.2.2.2.2.2.2.2.1.2.2.2), v.2.2.2.2.2.2.2.2)
def F158 := F158_T (β := (den fin)) some
theorem F158_ev {β : Type} (k : Nat) (v : (den fin)) (w : (den seg)) (K : KT β) : evalF (F158_E k) Tryz.f158 (PsT.put F158_A (v, w, ())) K = (F158 k v w).bind fun r => K (F158_O.put r) :=
 Eq.trans (b := F158_T (fun r => K (F158_O.put r)) k v w) (by kernel_rfl) (by simp only [F158, F158_T, z1, z2, z3, z4, z5, u_fin, u_seg])
def F158_d (k : Nat) : FD := ⟨158, F158_A, F158_O, F158 k⟩
theorem F158_q (k : Nat) : (F158_d k).Ok Tryz.prog := ⟨fun x => con_of (envOk .none _ _ _ _) mixed Tryz.func158 rfl rfl (F158_ev k _ _ some), .of (by kernel_rfl)⟩
abbrev F163_E (k : Nat) : Env := env (tabs [F91_d k]) noHint .own [(false, 0), (false, 1), (false, 2), (false, 3), (false, 4), (false, 5), (false, 6), (false, 7), (false, 8), (false, 9), (false, 10), (false, 11), (false, 12), (false, 13), (false, 14), (false, 15), (false, 16), (false, 17), (false, 18), (false, 19), (false, 20), (false, 21), (false, 22), (false, 23)] k
abbrev F163_A : List PA := [.p m_16, .one mI]
abbrev F163_O : RO := ⟨[], [m_16]⟩
def F163_T {β : Type} (RET : (den fin) → Option β) (k : Nat) (v : (den fin)) (w : Int) : Option β := cond (v.2.2.2.2.2.2.2.2.2.2.2.2.1 == 0) ((F91 k v).bind fun b1 => cond b1 (RET (v.1, v.2.1, v.2.2.1, v.2.2.2.1, v.2.2.2.2.1, v.2.2.2.2.2.1, v.2.2.2.2.2.2.1, v.2.2.2.2.2.2.2.1, v.2.2.2.2.2.2.2.2.1, v.2.2.2.2.2.2.2.2.2.1, v.2.2.2.2.2.2.2.2.2.2.1, v.2.2.2.2.2.2.2.2.2.2.2.1, i64.wrap (w + v.2.2.2.2.2.2.2.2.2.2.2.2.2.2.2.2), v.2.2.2.2.2.2.2.2.2.2.2.2.2)) (RET v)) (RET v)
def F163 := F163_T (β := (den fin)) some
theorem F163_ev {β : Type} (k : Nat) (v : (den fin)) (w : Int) (K : KT β) : evalF (F163_E k) Tryz.f163 (PsT.put F163_A (v, w, ())) K = (F163 k v w).bind fun r => K (F163_O.put r) :=
 Eq.trans (b := F163_T (fun r => K (F163_O.put r)) k v w) (by kernel_rfl) (by simp only [F163, F163_T, z1, z2, z3, z4, z5, u_fin])
def F163_d (k : Nat) : FD := ⟨163, F163_A, F163_O, F163 k⟩
theorem F163_q (k : Nat) : (F163_d k).Ok Tryz.prog := ⟨fun x => con_of (envOk (tabsOk (.c (F91_q k) .n)) _ _ _ _) mixed Tryz.func163 rfl rfl (F163_ev k _ _ some), .of (by kernel_rfl)⟩
abbrev F128_E (k : Nat) : Env := env (tabs [F163_d k]) noHint .own [(false, 0), (false, 1), (false, 2), (false, 3), (false, 4), (false, 5), (false, 6), (false, 7), (false, 8), (false, 9), (false, 10), (false, 11), (false, 12), (false, 13), (false, 14), (false, 15), (false, 16), (false, 17), (false, 18), (false, 19), (false, 20), (false, 21), (false, 22), (false, 23)] k
abbrev F128_A : List PA := [.p m_16, .one mI]
abbrev F128_O : RO := ⟨[], [m_16]⟩
def F128_T {β : Type} (RET : (den fin) → Option β) (k : Nat) (v : (den fin)) (w : Int) : Option β := (F163 k (v.1, v.2.1, v.2.2.1, v.2.2.2.1, v.2.2.2.2.1, v.2.2.2.2.2.1, v.2.2.2.2.2.2.1, v.2.2.2.2.2.2.2.1, v.2.2.2.2.2.2.2.2.1, v.2.2.2.2.2.2.2.2.2.1, v.2.2.2.2.2.2.2.2.2.2.1, v.2.2.2.2.2.2.2.2.2.2.2.1, 0, 0, v.2.2.2.2.2.2.2.2.2.2.2.2.2.2.1, v.2.2.2.2.2.2.2.2.2.2.2.2.2.2.2.1, v.2.2.2.2.2.2.2.2.2.2.2.2.2.2.2.2) w).bind fun b1 => RET b1
def F128 := F128_T (β := (den fin)) some
theorem F128_ev {β : Type} (k : Nat) (v : (den fin)) (w : Int) (K : KT β) : evalF (F128_E k) Tryz.f128 (PsT.put F128_A (v, w, ())) K = (F128 k v w).bind fun r => K (F128_O.put r) :=
 Eq.trans (b := F128_T (fun r => K (F128_O.put r)) k v w) (by kernel_rfl) (by simp only [F128, F128_T, z1, z2, z3, z4, z5, u_fin])
def F128_d (k : Nat) : FD := ⟨128, F128_A, F128_O, F128 k⟩
theorem F128_q (k : Nat) : (F128_d k).Ok Tryz.prog := ⟨fun x => con_of (envOk (tabsOk (.c (F163_q k) .n)) _ _ _ _) mixed Tryz.func128 rfl rfl (F128_ev k _ _ some), .of (by kernel_rfl)⟩
end
end Go.Proofs.YtjkkbmkkljpcjaaGreat.Gn
end

section
set_option linter.unusedVariables false
set_option linter.unusedSimpArgs false
namespace Go.Proofs.YtjkkbmkkljpcjaaGreat.Gn
open Go.Rf IntKind
noncomputable section
abbrev F129_E (k : Nat) : Env := env (tabs [F151_d k]) noHint .own [] k
abbrev F129_A : List PA := [.agg (.pair mI (.pair mI m_9))]
abbrev F129_O : RO := ⟨[.a], [m_20]⟩
def F129_T {β : Type} (RET : (den seg) → Option β) (k : Nat) (v : (den fin)) : Option β := cond (v.1 == 2) (RET (v.2.2.1, v.2.2.2.2.1, v.2.2.2.2.2.1, 0, 0, true, false, false, false, [], [])) ((F151 k v v.2.2.2.2.2.1 []).bind fun b1 => RET (b1.1, b1.2.1, b1.2.2.1, b1.2.2.2.1, b1.2.2.2.2.1, true, b1.2.2.2.2.2.2))
def F129 := F129_T (β := (den seg)) some
theorem F129_ev {β : Type} (k : Nat) (v : (den fin)) (K : KT β) : evalF (F129_E k) Tryz.f129 (PsT.put F129_A (v, ())) K = (F129 k v).bind fun r => K (F129_O.put r) :=
 Eq.trans (b := F129_T (fun r => K (F129_O.put r)) k v) (by kernel_rfl) (by simp only [F129, F129_T, z1, z2, z3, z4, z5, u_fin])
def F129_d (k : Nat) : FD := ⟨129, F129_A, F129_O, F129 k⟩
theorem F129_q (k : Nat) : (F129_d k).Ok Tryz.prog := ⟨fun x => con_of (envOk (tabsOk (.c (F151_q k) .n)) _ _ _ _) mixed Tryz.func129 rfl rfl (F129_ev k _ some), .of (by kernel_rfl)⟩
abbrev F124_E (k : Nat) : Env := env (tabs [F158_d k, F128_d k, F129_d k]) noHint .own [(false, 0), (false, 1), (false, 2), (false, 3), (false, 4), (false, 5), (false, 6), (false, 7), (false, 8), (false, 9), (false, 10), (false, 11), (false, 12), (false, 13), (false, 14), (false, 15), (false, 16), (false, 17), (false, 18), (false, 19), (false, 20), (false, 21), (false, 22), (false, 23)] k
abbrev F124_A : List PA := [.p m_16, .one mI, .agg m_24, .one mI]
abbrev F124_O : RO := ⟨[.v], [.sl .own seg, m_16]⟩
def F124_T {β : Type} (RET : (L_seg × (den fin)) → Option β) (k : Nat) (v : (den fin)) (w : Int) (p : (den seg)) (q : Int) : Option β := (F158 k (3, v.2.1, v.2.2.1, w, p.1, v.2.2.2.2.2) p).bind fun b1 => (F128 k b1 q).bind fun b2 => (F129 k b2).bind fun b3 => RET ([b3], b2)
def F124 := F124_T (β := L_seg × (den fin)) some
theorem F124_ev {β : Type} (k : Nat) (v : (den fin)) (w : Int) (p : (den seg)) (q : Int) (K : KT β) : evalF (F124_E k) Tryz.f124 (PsT.put F124_A (v, w, p, q, ())) K = (F124 k v w p q).bind fun r => K (F124_O.put r) :=
 Eq.trans (b := F124_T (fun r => K (F124_O.put r)) k v w p q) (by kernel_rfl) (by simp only [F124, F124_T, z1, z2, z3, z4, z5, u_fin, u_seg])
def F124_d (k : Nat) : FD := ⟨124, F124_A, F124_O, F124 k⟩
theorem F124_q (k : Nat) : (F124_d k).Ok Tryz.prog := ⟨fun x => con_of (envOk (tabsOk (.c (F158_q k) (.c (F128_q k) (.c (F129_q k) .n)))) _ _ _ _) mixed Tryz.func124 rfl rfl (F124_ev k _ _ _ _ some), .of (by kernel_rfl)⟩
abbrev F179_E (k : Nat) : Env := env (tabs [F148_d k]) noHint .own [(false, 0), (false, 1), (false, 2), (false, 3), (false, 4), (false, 5), (false, 6), (false, 7), (false, 8), (false, 9), (false, 10), (false, 11), (false, 12), (false, 13), (false, 14), (false, 15), (false, 16), (false, 17)] k
abbrev F179_R : Type := Int × L_u8 × ((den mth) × ((den ear) × (Bool × (Bool × (Bool × (Int × (Int × (Int × (den clk)))))))))
abbrev F179_A : List PA := [.p m_14, .one mI]
abbrev F179_O : RO := ⟨[.v, .v], [mI, .sl .own (.int .u8), m_14]⟩
def F179_T {β : Type} (RET : F179_R → Option β) (k : Nat) (v : ((den mth) × ((den ear) × (Bool × (Bool × (Bool × (Int × (Int × (Int × (den clk)))))))))) (w : Int) : Option β := u_7 v fun v0 v1 v2 v3 v4 _ _ _ _ _ _ _ _ _ _ _ _ _ => cond (decide ((if (i64.wrap (v3 - v2)) < (if (i64.wrap ((v1.length : Int) - v2)) < w then i64.wrap ((v1.length : Int) - v2) else w) then i64.wrap (v3 - v2) else (if (i64.wrap ((v1.length : Int) - v2)) < w then i64.wrap ((v1.length : Int) - v2) else w)) ≤ 0)) (RET (i64.wrap (v0 + v2), [], v)) (cond (decide (0 ≤ (i64.wrap (v2 + (if (i64.wrap (v3 - v2)) < (if (i64.wrap ((v1.length : Int) - v2)) < w then i64.wrap ((v1.length : Int) - v2) else w) then i64.wrap (v3 - v2) else (if (i64.wrap ((v1.length : Int) - v2)) < w then i64.wrap ((v1.length : Int) - v2) else w))))) && decide ((i64.wrap (v2 + (if (i64.wrap (v3 - v2)) < (if (i64.wrap ((v1.length : Int) - v2)) < w then i64.wrap ((v1.length : Int) - v2) else w) then i64.wrap (v3 - v2) else (if (i64.wrap ((v1.length : Int) - v2)) < w then i64.wrap ((v1.length : Int) - v2) else w)))) ≤ (v1.length : Int))) (cond (decide (0 ≤ v2) && decide (v2 ≤ (i64.wrap (v2 + (if (i64.wrap (v3 - v2)) < (if (i64.wrap ((v1.length : Int) - v2)) < w then i64.wrap ((v1.length : Int) - v2) else w) then i64.wrap (v3 - v2) else (if (i64.wrap ((v1.length : Int) - v2)) < w then i64.wrap ((v1.length : Int) - v2) else w)))))) ((F148 k ((v1.take ((i64.wrap (v2 + (if (i64.wrap (v3 - v2)) < (if (i64.wrap ((v1.length : Int) - v2)) < w then i64.wrap ((v1.length : Int) - v2) else w) then i64.wrap (v3 - v2) else (if (i64.wrap ((v1.length : Int) - v2)) < w then i64.wrap ((v1.length : Int) - v2) else w)))).toNat)).drop v2.toNat)).bind fun b1 => RET (i64.wrap (v0 + v2), b1, ((v0, v1, i64.wrap (v2 + (if (i64.wrap (v3 - v2)) < (if (i64.wrap ((v1.length : Int) - v2)) < w then i64.wrap ((v1.length : Int) - v2) else w) then i64.wrap (v3 - v2) else (if (i64.wrap ((v1.length : Int) - v2)) < w then i64.wrap ((v1.length : Int) - v2) else w))), v3, v4), v.2))) none) none)
def F179 := F179_T (β := F179_R) some
theorem F179_ev {β : Type} (k : Nat) (v : ((den mth) × ((den ear) × (Bool × (Bool × (Bool × (Int × (Int × (Int × (den clk)))))))))) (w : Int) (K : KT β) : evalF (F179_E k) Tryz.f179 (PsT.put F179_A (v, w, ())) K = (F179 k v w).bind fun r => K (F179_O.put r) :=
 Eq.trans (b := F179_T (fun r => K (F179_O.put r)) k v w) (by kernel_rfl) (by simp only [F179, F179_T, z1, z2, z3, z4, z5, u_7])
def F179_d (k : Nat) : FD := ⟨179, F179_A, F179_O, F179 k⟩
theorem F179_q (k : Nat) : (F179_d k).Ok Tryz.prog := ⟨fun x => con_of (envOk (tabsOk (.c (F148_q k) .n)) _ _ _ _) mixed Tryz.func179 rfl rfl (F179_ev k _ _ some), .of (by kernel_rfl)⟩
abbrev F96_2_E (k : Nat) : Env := env (tabs [F147_d k, F148_d k]) noHint .own [] k
abbrev F96_2_A : List PA := [.agg m_24]
abbrev F96_2_O : RO := ⟨[.a], [m_20]⟩
def F96_2_T {β : Type} (RET : (den seg) → Option β) (k : Nat) (v : (den seg)) : Option β := u_seg v fun v0 v1 v2 v3 v4 v5 v6 v7 v8 v9 v10 => (F147 k v9).bind fun b1 => (F148 k v10).bind fun b2 => RET (v0, v1, v2, v3, v4, v5, v6, v7, v8, b1, b2)
def F96_2 := F96_2_T (β := (den seg)) some
theorem F96_2_ev {β : Type} (k : Nat) (v : (den seg)) (K : KT β) : evalF (F96_2_E k) Tryz.f96 (PsT.put F96_2_A (v, ())) K = (F96_2 k v).bind fun r => K (F96_2_O.put r) :=
 Eq.trans (b := F96_2_T (fun r => K (F96_2_O.put r)) k v) (by kernel_rfl) (by simp only [F96_2, F96_2_T, z1, z2, z3, z4, z5, u_seg])
def F96_2_d (k : Nat) : FD := ⟨96, F96_2_A, F96_2_O, F96_2 k⟩
theorem F96_2_q (k : Nat) : (F96_2_d k).Ok Tryz.prog := ⟨fun x => con_of (envOk (tabsOk (.c (F147_q k) (.c (F148_q k) .n))) _ _ _ _) mixed Tryz.func96 rfl rfl (F96_2_ev k _ some), .of (by kernel_rfl)⟩
def F151_2_h : Nat → Hint
 | 0 => ⟨pl 6 2 (pl 26 3 []), pl 6000 11 (pl 7000 9 ((7009, .own .own rng []) :: (pl 7010 1 (pl 26000 1 []))))⟩
 | _ => ⟨[], []⟩
abbrev F151_2_E (k : Nat) : Env := env (tabs [F37_d k, F157_d k, F104_d k, F172_d k, F96_2_d k]) F151_2_h .own [] k
abbrev F151_2_A : List PA := [.agg (.pair mI (.pair mI m_9)), .one mI, .one (.sl .ro (.int .u8))]
abbrev F151_2_O : RO := ⟨[.a], [m_20]⟩
noncomputable def F151_2_z {β : Type} (k : Nat) (v : (den fin)) (w : Int) (p : L_u8) (K : KT β) : Ex → St → Option β := endC (F151_2_E k) Tryz.f151 (PsT.put F151_2_A (v, w, p, ())) K
def F151_2_s0 (v : (den fin)) (w : Int) (p : L_u8) (x27_0 x28_0 : Int) (m7000_0 : (den seg)) (m26000_0 : L_rng) : St := ⟨dz 6 ((.one (.ptr (.cell 6000) 11 0)) :: (.one (.ptr (.cell 7000) 11 0)) :: dz 18 ((.one (.a (.cell 26000) 0 0 none)) :: (.one (vI x27_0)) :: (.one (vI x28_0)) :: dz 18 [])), rowE 6000 (lsM m_20 (0, 0, 0, 0, 0, false, false, false, false, [], [])) (rowE 7000 (lsM m_36 m7000_0) [eM 26000 (.s .own rng m26000_0)])⟩
noncomputable def F151_2_l0_g {β : Type} (k : Nat) (v : (den fin)) (w : Int) (p : L_u8) (K : KT β) (n : Nat) (x27_0 x28_0 : Int) (m7000_0 : (den seg)) (m26000_0 : L_rng) : Option β := loopG (F151_2_E k) Tryz.f151 [1, 1, 0, 1, 0] 0 (kontAt (F151_2_E k) [1, 1, 0, 1, 0] (bodyOf Tryz.f151) 0 (F151_2_z k v w p K)) n (F151_2_s0 v w p x27_0 x28_0 m7000_0 m26000_0)
def F151_2_l0_T {β : Type} (NX : Int → Int → (den seg) → L_rng → Option β) (RET : (den seg) → Option β) (k : Nat) (v : (den fin)) (w : Int) (p : L_u8) (x27_0 x28_0 : Int) (m7000_0 : (den seg)) (m26000_0 : L_rng) : Option β := cond (decide (x28_0 < x27_0)) (ixc x28_0 m26000_0 ((F37 k (atI m26000_0 x28_0).1).bind fun b6 => (F37 k (atI m26000_0 x28_0).2).bind fun b7 => szc (m7000_0.2.2.2.2.2.2.2.2.2.1.length) ([(b6, b7)].length) 16 (NX x27_0 (i64.wrap (x28_0 + 1)) (m7000_0.1, m7000_0.2.1, m7000_0.2.2.1, m7000_0.2.2.2.1, m7000_0.2.2.2.2.1, m7000_0.2.2.2.2.2.1, m7000_0.2.2.2.2.2.2.1, m7000_0.2.2.2.2.2.2.2.1, m7000_0.2.2.2.2.2.2.2.2.1, m7000_0.2.2.2.2.2.2.2.2.2.1 ++ [(b6, b7)], m7000_0.2.2.2.2.2.2.2.2.2.2) m26000_0))) ((F96_2 k m7000_0).bind fun b8 => RET b8)
def F151_2_l0 (k : Nat) (v : (den fin)) (w : Int) (p : L_u8) : Nat → Int → Int → (den seg) → L_rng → Option ((den seg))
 | 0, _, _, _, _ => none
 | n + 1, x27_0, x28_0, m7000_0, m26000_0 => F151_2_l0_T (F151_2_l0 k v w p n) some k v w p x27_0 x28_0 m7000_0 m26000_0
theorem F151_2_l0_lp {β : Type} (k : Nat) (v : (den fin)) (w : Int) (p : L_u8) (K : KT β) (n : Nat) : ∀ (x27_0 x28_0 : Int) (m7000_0 : (den seg)) (m26000_0 : L_rng), F151_2_l0_g k v w p K n x27_0 x28_0 m7000_0 m26000_0 =
  (F151_2_l0 k v w p n x27_0 x28_0 m7000_0 m26000_0).bind fun r => K (F151_2_O.put r) := by
 induction n with
 | zero => intros; rfl
 | succ n ih =>
  intro x27_0 x28_0 m7000_0 m26000_0
  refine Eq.trans (b := F151_2_l0_T (F151_2_l0_g k v w p K n) (fun r => K (F151_2_O.put r)) k v w p x27_0 x28_0 m7000_0 m26000_0) (by kernel_rfl) ?_
  rw [F151_2_l0]
  simp only [F151_2_l0_T, z1, z2, z3, z4, z5, u_fin, ih]
def F151_2_T {β : Type} (LP0 : Int → Int → (den seg) → L_rng → Option β) (k : Nat) (v : (den fin)) (w : Int) (p : L_u8) : Option β := (F37 k w).bind fun b1 => (F157 k v).bind fun b2 => (F37 k b2).bind fun b3 => (F104 k v.2.2.2.2.2.2.2.1).bind fun b4 => (F172 k v.2.2.2.2.2.2.2.1).bind fun b5 => LP0 (b5.length : Int) 0 (v.2.2.1, v.2.2.2.2.1, b1, b3, b4, false, true, false, false, [], p) b5
def F151_2 (k : Nat) (v : (den fin)) (w : Int) (p : L_u8) : Option ((den seg)) := F151_2_T (F151_2_l0 k v w p k) k v w p
theorem F151_2_ev {β : Type} (k : Nat) (v : (den fin)) (w : Int) (p : L_u8) (K : KT β) : evalF (F151_2_E k) Tryz.f151 (PsT.put F151_2_A (v, w, p, ())) K = (F151_2 k v w p).bind fun r => K (F151_2_O.put r) :=
 Eq.trans (b := F151_2_T (F151_2_l0_g k v w p K k) k v w p) (by kernel_rfl) (by simp only [F151_2, F151_2_T, z1, z2, z3, z4, z5, u_fin, F151_2_l0_lp])
def F151_2_d (k : Nat) : FD := ⟨151, F151_2_A, F151_2_O, F151_2 k⟩
theorem F151_2_q (k : Nat) : (F151_2_d k).Ok Tryz.prog := ⟨fun x => con_of (envOk (tabsOk (.c (F37_q k) (.c (F157_q k) (.c (F104_q k) (.c (F172_q k) (.c (F96_2_q k) .n)))))) _ _ _ _) mixed Tryz.func151 rfl rfl (F151_2_ev k _ _ _ some), .of (by kernel_rfl)⟩
def F174_h : Nat → Hint
 | 0 => ⟨pl 0 1 ((3, .own .own seg []) :: []), pl 0 24 []⟩
 | _ => ⟨[], []⟩
abbrev F174_E (k : Nat) : Env := env (tabs [F179_d k, F151_2_d k]) F174_h .own [(false, 0), (false, 1), (false, 2), (false, 3), (false, 4), (false, 5), (false, 6), (false, 7), (false, 8), (false, 9), (false, 10), (false, 11), (false, 12), (false, 13), (false, 14), (false, 15), (false, 16), (false, 17), (false, 18), (false, 19), (false, 20), (false, 21), (false, 22), (false, 23)] k
abbrev F174_A : List PA := [.p m_16]
abbrev F174_O : RO := ⟨[.v], [.sl .own seg, m_16]⟩
noncomputable def F174_z {β : Type} (k : Nat) (v : (den fin)) (K : KT β) : Ex → St → Option β := endC (F174_E k) Tryz.f174 (PsT.put F174_A (v, ())) K
def F174_s0 (v : (den fin)) (m0_0 : (den fin)) (m3900_0 : L_seg) : St := ⟨(.one (.ptr (.cell 0) 24 0)) :: (.one .d) :: (.one .d) :: (.one (.a (.cell 3900) 0 0 none)) :: dz 27 [], rowE 0 (lsM m_16 m0_0) [eM 3900 (.s .own seg m3900_0)]⟩
noncomputable def F174_l0_g {β : Type} (k : Nat) (v : (den fin)) (K : KT β) (n : Nat) (m0_0 : (den fin)) (m3900_0 : L_seg) : Option β := loopG (F174_E k) Tryz.f174 [1, 1, 0, 0] 0 (kontAt (F174_E k) [1, 1, 0, 0] (bodyOf Tryz.f174) 0 (F174_z k v K)) n (F174_s0 v m0_0 m3900_0)
def F174_l0_T {β : Type} (NX : (den fin) → L_seg → Option β) (RET : (L_seg × (den fin)) → Option β) (k : Nat) (v : (den fin)) (m0_0 : (den fin)) (m3900_0 : L_seg) : Option β := cond (m0_0.1 == 4) ((F179 k m0_0.2.2.2.2.2.2 12).bind fun b1 => cond ((b1.2.1.length : Int) == 0) (RET (m3900_0, (m0_0.1, m0_0.2.1, m0_0.2.2.1, m0_0.2.2.2.1, m0_0.2.2.2.2.1, m0_0.2.2.2.2.2.1, b1.2.2))) ((F151_2 k (m0_0.1, m0_0.2.1, m0_0.2.2.1, m0_0.2.2.2.1, m0_0.2.2.2.2.1, m0_0.2.2.2.2.2.1, b1.2.2) b1.1 b1.2.1).bind fun b2 => szc (m3900_0.length) ([b2].length) 96 (NX (m0_0.1, m0_0.2.1, m0_0.2.2.1, m0_0.2.2.2.1, m0_0.2.2.2.2.1, m0_0.2.2.2.2.2.1, b1.2.2) (m3900_0 ++ [b2])))) (RET (m3900_0, m0_0))
def F174_l0 (k : Nat) (v : (den fin)) : Nat → (den fin) → L_seg → Option (L_seg × (den fin))
 | 0, _, _ => none
 | n + 1, m0_0, m3900_0 => F174_l0_T (F174_l0 k v n) some k v m0_0 m3900_0
theorem F174_l0_lp {β : Type} (k : Nat) (v : (den fin)) (K : KT β) (n : Nat) : ∀ (m0_0 : (den fin)) (m3900_0 : L_seg), F174_l0_g k v K n m0_0 m3900_0 =
  (F174_l0 k v n m0_0 m3900_0).bind fun r => K (F174_O.put r) := by
 induction n with
 | zero => intros; rfl
 | succ n ih =>
  intro m0_0 m3900_0
  refine Eq.trans (b := F174_l0_T (F174_l0_g k v K n) (fun r => K (F174_O.put r)) k v m0_0 m3900_0) (by kernel_rfl) ?_
  rw [F174_l0]
  simp only [F174_l0_T, z1, z2, z3, z4, z5, u_fin, ih]
def F174_T {β : Type} (LP0 : (den fin) → L_seg → Option β) (k : Nat) (v : (den fin)) : Option β := LP0 v []
def F174 (k : Nat) (v : (den fin)) : Option (L_seg × (den fin)) := F174_T (F174_l0 k v k) k v
theorem F174_ev {β : Type} (k : Nat) (v : (den fin)) (K : KT β) : evalF (F174_E k) Tryz.f174 (PsT.put F174_A (v, ())) K = (F174 k v).bind fun r => K (F174_O.put r) :=
 Eq.trans (b := F174_T (F174_l0_g k v K k) k v) (by kernel_rfl) (by simp only [F174, F174_T, z1, z2, z3, z4, z5, u_fin, F174_l0_lp])
def F174_d (k : Nat) : FD := ⟨174, F174_A, F174_O, F174 k⟩
theorem F174_q (k : Nat) : (F174_d k).Ok Tryz.prog := ⟨fun x => con_of (envOk (tabsOk (.c (F179_q k) (.c (F151_2_q k) .n))) _ _ _ _) mixed Tryz.func174 rfl rfl (F174_ev k _ some), .of (by kernel_rfl)⟩
abbrev F175_E (k : Nat) : Env := env (tabs [F151_d k]) noHint .own [] k
abbrev F175_A : List PA := [.agg (.pair mI (.pair mI m_9))]
abbrev F175_O : RO := ⟨[.a], [m_20]⟩
def F175_T {β : Type} (RET : (den seg) → Option β) (k : Nat) (v : (den fin)) : Option β := (F151 k v (i64.wrap (v.2.2.2.2.2.2.1.1 + (v.2.2.2.2.2.2.1.2.1.length : Int))) []).bind fun b1 => RET (b1.1, b1.2.1, b1.2.2.1, b1.2.2.2.1, b1.2.2.2.2.1, b1.2.2.2.2.2.1, b1.2.2.2.2.2.2.1, true, b1.2.2.2.2.2.2.2.2)
def F175 := F175_T (β := (den seg)) some
theorem F175_ev {β : Type} (k : Nat) (v : (den fin)) (K : KT β) : evalF (F175_E k) Tryz.f175 (PsT.put F175_A (v, ())) K = (F175 k v).bind fun r => K (F175_O.put r) :=
 Eq.trans (b := F175_T (fun r => K (F175_O.put r)) k v) (by kernel_rfl) (by simp only [F175, F175_T, z1, z2, z3, z4, z5, u_fin])
def F175_d (k : Nat) : FD := ⟨175, F175_A, F175_O, F175 k⟩
theorem F175_q (k : Nat) : (F175_d k).Ok Tryz.prog := ⟨fun x => con_of (envOk (tabsOk (.c (F151_q k) .n)) _ _ _ _) mixed Tryz.func175 rfl rfl (F175_ev k _ some), .of (by kernel_rfl)⟩
abbrev F159_E (k : Nat) : Env := env (tabs [F174_d k, F175_d k]) noHint .own [(false, 0), (false, 1), (false, 2), (false, 3), (false, 4), (false, 5), (false, 6), (false, 7), (false, 8), (false, 9), (false, 10), (false, 11), (false, 12), (false, 13), (false, 14), (false, 15), (false, 16), (false, 17), (false, 18), (false, 19), (false, 20), (false, 21), (false, 22), (false, 23)] k
abbrev F159_A : List PA := [.p m_16]
abbrev F159_O : RO := ⟨[.v], [.sl .own seg, m_16]⟩
def F159_T {β : Type} (RET : (L_seg × (den fin)) → Option β) (k : Nat) (v : (den fin)) : Option β := (F174 k v).bind fun b1 => cond (b1.2.1 == 4) (cond b1.2.2.2.2.2.2.2.2.2.1 (cond (!b1.2.2.2.2.2.2.2.2.2.2.1) (cond (b1.2.2.2.2.2.2.2.1.2.2.1 == (b1.2.2.2.2.2.2.2.1.2.1.length : Int)) ((F175 k (b1.2.1, b1.2.2.1, b1.2.2.2.1, b1.2.2.2.2.1, b1.2.2.2.2.2.1, b1.2.2.2.2.2.2.1, b1.2.2.2.2.2.2.2.1, b1.2.2.2.2.2.2.2.2.1, b1.2.2.2.2.2.2.2.2.2.1, true, b1.2.2.2.2.2.2.2.2.2.2.2)).bind fun b2 => szc (b1.1.length) ([b2].length) 96 (RET (b1.1 ++ [b2], (b1.2.1, b1.2.2.1, b1.2.2.2.1, b1.2.2.2.2.1, b1.2.2.2.2.2.1, b1.2.2.2.2.2.2.1, b1.2.2.2.2.2.2.2.1, b1.2.2.2.2.2.2.2.2.1, b1.2.2.2.2.2.2.2.2.2.1, true, b1.2.2.2.2.2.2.2.2.2.2.2)))) (RET b1)) (RET b1)) (RET b1)) (RET b1)
def F159 := F159_T (β := L_seg × (den fin)) some
theorem F159_ev {β : Type} (k : Nat) (v : (den fin)) (K : KT β) : evalF (F159_E k) Tryz.f159 (PsT.put F159_A (v, ())) K = (F159 k v).bind fun r => K (F159_O.put r) :=
 Eq.trans (b := F159_T (fun r => K (F159_O.put r)) k v) (by kernel_rfl) (by simp only [F159, F159_T, z1, z2, z3, z4, z5, u_fin])
def F159_d (k : Nat) : FD := ⟨159, F159_A, F159_O, F159 k⟩
theorem F159_q (k : Nat) : (F159_d k).Ok Tryz.prog := ⟨fun x => con_of (envOk (tabsOk (.c (F174_q k) (.c (F175_q k) .n))) _ _ _ _) mixed Tryz.func159 rfl rfl (F159_ev k _ some), .of (by kernel_rfl)⟩
abbrev F126_E (k : Nat) : Env := env (tabs [F158_d k, F159_d k, F128_d k, F105_d k]) noHint .own [(false, 0), (false, 1), (false, 2), (false, 3), (false, 4), (false, 5), (false, 6), (false, 7), (false, 8), (false, 9), (false, 10), (false, 11), (false, 12), (false, 13), (false, 14), (false, 15), (false, 16), (false, 17), (false, 18), (false, 19), (false, 20), (false, 21), (false, 22), (false, 23)] k
abbrev F126_A : List PA := [.p m_16, .agg m_24, .one mI]
abbrev F126_O : RO := ⟨[.v], [.sl .own seg, m_16]⟩
def F126_T {β : Type} (RET : (L_seg × (den fin)) → Option β) (k : Nat) (v : (den fin)) (w : (den seg)) (p : Int) : Option β := (F158 k (4, v.2.1, v.2.2.1, v.2.2.2.1, v.2.2.2.2.1, v.2.2.2.2.2.1, (v.2.2.2.2.2.2.1.1, v.2.2.2.2.2.2.1.2.1, v.2.2.2.2.2.2.1.2.2.1, w.2.2.2.2.1, v.2.2.2.2.2.2.1.2.2.2.2), v.2.2.2.2.2.2.2) w).bind fun b1 => (F159 k b1).bind fun b2 => (F128 k b2.2 p).bind fun b3 => cond ((b2.1.length : Int) == 0) ((F105 k b3).bind fun b4 => RET ([b4], b3)) (RET (b2.1, b3))
def F126 := F126_T (β := L_seg × (den fin)) some
theorem F126_ev {β : Type} (k : Nat) (v : (den fin)) (w : (den seg)) (p : Int) (K : KT β) : evalF (F126_E k) Tryz.f126 (PsT.put F126_A (v, w, p, ())) K = (F126 k v w p).bind fun r => K (F126_O.put r) :=
 Eq.trans (b := F126_T (fun r => K (F126_O.put r)) k v w p) (by kernel_rfl) (by simp only [F126, F126_T, z1, z2, z3, z4, z5, u_fin, u_seg])
def F126_d (k : Nat) : FD := ⟨126, F126_A, F126_O, F126 k⟩
theorem F126_q (k : Nat) : (F126_d k).Ok Tryz.prog := ⟨fun x => con_of (envOk (tabsOk (.c (F158_q k) (.c (F159_q k) (.c (F128_q k) (.c (F105_q k) .n))))) _ _ _ _) mixed Tryz.func126 rfl rfl (F126_ev k _ _ _ some), .of (by kernel_rfl)⟩
abbrev F176_E (k : Nat) : Env := env (tabs [F37_d k]) noHint .own [] k
abbrev F176_A : List PA := [.one mI, .one mI]
abbrev F176_O : RO := ⟨[.v], [mI]⟩
def F176_T {β : Type} (RET : Int → Option β) (k : Nat) (v w : Int) : Option β := (F37 k (i64.wrap ((i64.wrap (w - v)) + 32768))).bind fun b1 => RET (i64.wrap ((i64.wrap (v - 32768)) + b1))
def F176 := F176_T (β := Int) some
theorem F176_ev {β : Type} (k : Nat) (v w : Int) (K : KT β) : evalF (F176_E k) Tryz.f176 (PsT.put F176_A (v, w, ())) K = (F176 k v w).bind fun r => K (F176_O.put r) :=
 Eq.trans (b := F176_T (fun r => K (F176_O.put r)) k v w) (by kernel_rfl) (by simp only [F176, F176_T, z1, z2, z3, z4, z5])
def F176_d (k : Nat) : FD := ⟨176, F176_A, F176_O, F176 k⟩
theorem F176_q (k : Nat) : (F176_d k).Ok Tryz.prog := ⟨fun x => con_of (envOk (tabsOk (.c (F37_q k) .n)) _ _ _ _) mixed Tryz.func176 rfl rfl (F176_ev k _ _ some), .of (by kernel_rfl)⟩
abbrev F177_A : List PA := [.agg (.pair mI m_3), .one mI, .one mI, .one (.sl .ro rng)]
abbrev F177_O : RO := ⟨[.a, .v], [.pair mI m_11, mI]⟩
def F177 (k : Nat) (v : (den mth)) (w p : Int) (q : L_rng) : Option ((den mth) × Int) := none
def F177_d (k : Nat) : FD := ⟨177, F177_A, F177_O, F177 k⟩
theorem F177_q (k : Nat) : (F177_d k).Ok Tryz.prog := ⟨fun _ _ _ _ _ _ _ _ _ _ _ _ h => (nofun : none = some _ → _) h, .of (by kernel_rfl)⟩
def F160_h : Nat → Hint
 | 0 => ⟨pl 0 1 (pl 3 1 (pl 5 1 (pl 7 1 ((8, .own .own rng []) :: (pl 57 3 []))))), pl 0 24 (pl 3000 11 [])⟩
 | _ => ⟨[], []⟩
abbrev F160_E (k : Nat) : Env := env (tabs [F176_d k, F177_d k]) F160_h .own [(false, 0), (false, 1), (false, 2), (false, 3), (false, 4), (false, 5), (false, 6), (false, 7), (false, 8), (false, 9), (false, 10), (false, 11), (false, 12), (false, 13), (false, 14), (false, 15), (false, 16), (false, 17), (false, 18), (false, 19), (false, 20), (false, 21), (false, 22), (false, 23)] k
abbrev F160_A : List PA := [.p m_16, .agg m_24]
abbrev F160_O : RO := ⟨[.v], [mB, m_16]⟩
noncomputable def F160_z {β : Type} (k : Nat) (v : (den fin)) (w : (den seg)) (K : KT β) : Ex → St → Option β := endC (F160_E k) Tryz.f160 (PsT.put F160_A (v, w, ())) K
def F160_s0 (v : (den fin)) (w : (den seg)) (x5_0 : Int) (x7_0 : Bool) (x59_0 : Int) (m0_0 : (den fin)) (m8900_0 : L_rng) : St := ⟨(.one (.ptr (.cell 0) 24 0)) :: (.one .d) :: (.one .d) :: (.one (.ptr (.cell 3000) 11 0)) :: (.one .d) :: (.one (vI x5_0)) :: (.one .d) :: (.one (vB x7_0)) :: (.one (.a (.cell 8900) 0 0 none)) :: dz 48 ((.one (.s .ro rng w.2.2.2.2.2.2.2.2.2.1)) :: (.one (vI (w.2.2.2.2.2.2.2.2.2.1.length : Int))) :: (.one (vI x59_0)) :: dz 89 []), rowE 0 (lsM m_16 m0_0) (rowE 3000 (lsM m_24 w) [eM 8900 (.s .own rng m8900_0)])⟩
noncomputable def F160_l0_g {β : Type} (k : Nat) (v : (den fin)) (w : (den seg)) (K : KT β) (n : Nat) (x5_0 : Int) (x7_0 : Bool) (x59_0 : Int) (m0_0 : (den fin)) (m8900_0 : L_rng) : Option β := loopG (F160_E k) Tryz.f160 [1, 1, 1, 1, 1, 1, 1, 0, 1, 0] 0 (kontAt (F160_E k) [1, 1, 1, 1, 1, 1, 1, 0, 1, 0] (bodyOf Tryz.f160) 0 (F160_z k v w K)) n (F160_s0 v w x5_0 x7_0 x59_0 m0_0 m8900_0)
def F160_l0_j1 {β : Type} (k : Nat) (v : (den fin)) (w : (den seg)) (NX : Int → Bool → Int → (den fin) → L_rng → Option β) (RET : (Bool × (den fin)) → Option β) (m0_0 : (den fin)) (x5_0 : Int) (m8900_0 : L_rng) (x7_0 : Bool) : Option β := (F177 k m0_0.2.2.2.2.2.2.1 x5_0 w.2.2.2.2.1 m8900_0).bind fun b4 => cond x7_0 (RET (true, (m0_0.1, m0_0.2.1, m0_0.2.2.1, m0_0.2.2.2.1, m0_0.2.2.2.2.1, m0_0.2.2.2.2.2.1, b4.1, m0_0.2.2.2.2.2.2.2))) (cond (decide (b4.2 > 0)) (RET (true, (m0_0.1, m0_0.2.1, m0_0.2.2.1, m0_0.2.2.2.1, m0_0.2.2.2.2.1, m0_0.2.2.2.2.2.1, b4.1, m0_0.2.2.2.2.2.2.2))) (cond (m0_0.2.2.2.2.2.2.1.2.2.2.1 == 0) (RET (decide (b4.1.2.2.2.1 > 0), (m0_0.1, m0_0.2.1, m0_0.2.2.1, m0_0.2.2.2.1, m0_0.2.2.2.2.1, m0_0.2.2.2.2.2.1, b4.1, m0_0.2.2.2.2.2.2.2))) (RET (false, (m0_0.1, m0_0.2.1, m0_0.2.2.1, m0_0.2.2.2.1, m0_0.2.2.2.2.1, m0_0.2.2.2.2.2.1, b4.1, m0_0.2.2.2.2.2.2.2)))))
def F160_l0_T {β : Type} (NX : Int → Bool → Int → (den fin) → L_rng → Option β) (RET : (Bool × (den fin)) → Option β) (k : Nat) (v : (den fin)) (w : (den seg)) (x5_0 : Int) (x7_0 : Bool) (x59_0 : Int) (m0_0 : (den fin)) (m8900_0 : L_rng) : Option β := cond (decide (x59_0 < (w.2.2.2.2.2.2.2.2.2.1.length : Int))) (ixc x59_0 w.2.2.2.2.2.2.2.2.2.1 ((F176 k m0_0.2.2.2.2.2.2.1.1 (atI w.2.2.2.2.2.2.2.2.2.1 x59_0).1).bind fun b2 => (F176 k m0_0.2.2.2.2.2.2.1.1 (atI w.2.2.2.2.2.2.2.2.2.1 x59_0).2).bind fun b3 => szc (m8900_0.length) ([(b2, b3)].length) 16 (NX x5_0 x7_0 (i64.wrap (x59_0 + 1)) m0_0 (m8900_0 ++ [(b2, b3)])))) (cond (decide (x5_0 > 1000000)) (cond (decide (x5_0 ≥ m0_0.2.2.2.2.2.2.1.1)) (cond (decide (x5_0 ≤ (i64.wrap (m0_0.2.2.2.2.2.2.1.1 + m0_0.2.2.2.2.2.2.1.2.2.1)))) (RET (x7_0, m0_0)) (F160_l0_j1 k v w NX RET m0_0 x5_0 m8900_0 x7_0)) (F160_l0_j1 k v w NX RET m0_0 x5_0 m8900_0 x7_0)) (F160_l0_j1 k v w NX RET m0_0 x5_0 m8900_0 x7_0))
def F160_l0 (k : Nat) (v : (den fin)) (w : (den seg)) : Nat → Int → Bool → Int → (den fin) → L_rng → Option (Bool × (den fin))
 | 0, _, _, _, _, _ => none
 | n + 1, x5_0, x7_0, x59_0, m0_0, m8900_0 => F160_l0_T (F160_l0 k v w n) some k v w x5_0 x7_0 x59_0 m0_0 m8900_0
theorem F160_l0_lp {β : Type} (k : Nat) (v : (den fin)) (w : (den seg)) (K : KT β) (n : Nat) : ∀ (x5_0 : Int) (x7_0 : Bool) (x59_0 : Int) (m0_0 : (den fin)) (m8900_0 : L_rng), F160_l0_g k v w K n x5_0 x7_0 x59_0 m0_0 m8900_0 =
  (F160_l0 k v w n x5_0 x7_0 x59_0 m0_0 m8900_0).bind fun r => K (F160_O.put r) := by
 induction n with
 | zero => intros; rfl
 | succ n ih =>
  intro x5_0 x7_0 x59_0 m0_0 m8900_0
  refine Eq.trans (b := F160_l0_T (F160_l0_g k v w K n) (fun r => K (F160_O.put r)) k v w x5_0 x7_0 x59_0 m0_0 m8900_0) (by kernel_rfl) ?_
  rw [F160_l0]
  simp only [F160_l0_T, F160_l0_j1, z1, z2, z3, z4, z5, u_fin, u_seg, ih]
def F160_T {β : Type} (LP0 : Int → Bool → Int → (den fin) → L_rng → Option β) (RET : (Bool × (den fin)) → Option β) (k : Nat) (v : (den fin)) (w : (den seg)) : Option β := u_fin v fun v0 v1 v2 v3 v4 v5 v6 v7 _ _ _ _ _ _ _ v15 v16 v17 _ _ _ _ _ _ => cond (!w.2.2.2.2.2.2.1) (RET (false, v)) ((F176 k v6 w.2.2.2.1).bind fun b1 => cond v16 (cond (b1 == (i64.wrap ((i64.wrap (v6 + (v7.length : Int))) + 1))) (LP0 (i64.wrap (v6 + (v7.length : Int))) (!v17) 0 (v0, v1, v2, v3, v4, v5, v.2.2.2.2.2.2.1, v.2.2.2.2.2.2.2.1, v15, v16, true, v.2.2.2.2.2.2.2.2.2.2.2) []) (LP0 b1 false 0 v [])) (LP0 b1 false 0 v []))
def F160 (k : Nat) (v : (den fin)) (w : (den seg)) : Option (Bool × (den fin)) := F160_T (F160_l0 k v w k) some k v w
theorem F160_ev {β : Type} (k : Nat) (v : (den fin)) (w : (den seg)) (K : KT β) : evalF (F160_E k) Tryz.f160 (PsT.put F160_A (v, w, ())) K = (F160 k v w).bind fun r => K (F160_O.put r) :=
 Eq.trans (b := F160_T (F160_l0_g k v w K k) (fun r => K (F160_O.put r)) k v w) (by kernel_rfl) (by simp only [F160, F160_T, z1, z2, z3, z4, z5, u_fin, u_seg, F160_l0_lp])
def F160_d (k : Nat) : FD := ⟨160, F160_A, F160_O, F160 k⟩
theorem F160_q (k : Nat) : (F160_d k).Ok Tryz.prog := ⟨fun x => con_of (envOk (tabsOk (.c (F176_q k) (.c (F177_q k) .n))) _ _ _ _) mixed Tryz.func160 rfl rfl (F160_ev k _ _ some), .of (by kernel_rfl)⟩
abbrev F178_A : List PA := [.agg (.pair mI (.pair mI m_4)), .one mI, .one (.sl .ro (.int .u8))]
abbrev F178_O : RO := ⟨[.a], [.pair mI (.pair mI m_12)]⟩
def F178 (k : Nat) (v : (den ear)) (w : Int) (p : L_u8) : Option ((den ear)) := none
def F178_d (k : Nat) : FD := ⟨178, F178_A, F178_O, F178 k⟩
theorem F178_q (k : Nat) : (F178_d k).Ok Tryz.prog := ⟨fun _ _ _ _ _ _ _ _ _ _ _ _ h => (nofun : none = some _ → _) h, .of (by kernel_rfl)⟩
end
end Go.Proofs.YtjkkbmkkljpcjaaGreat.Gn
end
