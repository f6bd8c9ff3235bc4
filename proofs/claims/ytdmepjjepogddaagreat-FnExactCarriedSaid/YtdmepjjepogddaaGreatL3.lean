/-
  The program's Carried answers as the reference's.
-/
import Derived.Test.YtdmepjjepogddaaGreatRows
import Derived.WalkKit
import Derived.ProofKit
import Derived.OpenShut
import Derived.ShutString
import Derived.ChangeOld
import Derived.Below
import Derived.Carry
import Derived.SizedLaws
import Derived.Test.YtdmepjjepogddaaGreatA5
section
namespace Go.Proofs.YtdmepjjepogddaaGreat.fnExactCarried
open Go.ChangeShapes Go.WideShapes Go.ChangeAt Go.RowKit Go.Rf
open Go.ChangeMaps (open_string shut_string)
set_option linter.unusedVariables false
theorem own : ownKnob Tryz.prog.godebug = none := by kernel_rfl
theorem Xev : laidOutB Tryz.prog = true := by kernel_rfl
theorem u0 : Tryz.prog.underlying 22 = some (.slice 94) := by kernel_rfl
theorem u1 : Tryz.prog.underlying 3 = some (.int .i64) := by kernel_rfl
theorem u2 : Tryz.prog.underlying 3 = some (.int .i64) := by kernel_rfl
theorem u3 : Tryz.prog.underlying 3 = some (.int .i64) := by kernel_rfl
theorem u4 : Tryz.prog.underlying 3 = some (.int .i64) := by kernel_rfl
theorem u5 : Tryz.prog.underlying 23 = some (.slice 5) := by kernel_rfl
theorem walk (w : World) (a0 : Option Addr) (len0 cap0 : Nat) (l0 : List (den Gn.sta)) (hr0 : Rd w (fun b => b < w.heap.size) (.sl Gn.sta) .ro l0 [.slice a0 len0 cap0] []) (hw0 : Wf (.sl Gn.sta) l0) (a1 : Int) (w1 : (Lit.int .i64 a1).wf = true) (a2 : Int) (w2 : (Lit.int .i64 a2).wf = true) (a3 : Int) (w3 : (Lit.int .i64 a3).wf = true) (a4 : Int) (w4 : (Lit.int .i64 a4).wf = true) (a5 : Option Addr) (len5 cap5 : Nat) (l5 : List (den (.int .u8))) (hr5 : Rd w (fun b => b < w.heap.size) (.sl (.int .u8)) .ro l5 [.slice a5 len5 cap5] []) (hw5 : Wf (.sl (.int .u8)) l5) :
  Calls Tryz.prog 3 #[.slice a0 len0 cap0, .int .i64 a1, .int .i64 a2, .int .i64 a3, .int .i64 a4, .slice a5 len5 cap5] w fun e w' => e = .returned (.bool true) ∧ Below w.heap.size w w' := by
 obtain ⟨k, h⟩ := Gn.X3f l0 hw0 a1 w1 a2 w2 a3 w3 a4 w4 l5 hw5
 exact Xgo (bss := [[], [], [], [], [], []]) (h.1 l0 a1 a2 a3 a4 l5) ⟨hr0, (show _ ∧ _ from ⟨rfl, rfl⟩), (show _ ∧ _ from ⟨rfl, rfl⟩), (show _ ∧ _ from ⟨rfl, rfl⟩), (show _ ∧ _ from ⟨rfl, rfl⟩), hr5, trivial⟩ rfl rfl (r := true) h.2 rfl
set_option maxRecDepth 100000 in
theorem lifted (os : Os) (started : os.Started) (H : Type) (enc : TypeId × Value → H) :
  ReturnsInHanded {} Tryz.checked os 3 .any (Rows.fnExactCarriedSpec.pre6 enc Tryz.prog Tryz.f3 Rows.fnExactCarriedRow.domain false) (Rows.fnExactCarriedSpec.post enc Tryz.prog Tryz.f3 false true false false) := by
 refine returnsInHanded_of_change_sized (C := Tryz.checked) own started (by kernel_rfl) Tryz.func3
  (ChangeSpec.witness6 (enc := enc) (C := Tryz.checked) false ⟨#[], #[.slice none 0 0, .int .i64 0, .int .i64 0, .int .i64 0, .int .i64 0, .slice none 0 0], []⟩ 8 (by kernel_rfl) (by kernel_rfl) (by kernel_rfl) (by kernel_rfl)) ?_
 intro W base args ds gs before hval0 hW hcnd hsz0 _
 have hsz : (DataW.weightsEach Tryz.prog (Tryz.f3.params.toList ++ Rows.fnExactCarriedSpec.plain.varTypes Tryz.prog) (ds ++ gs)).all (· ≤ reachBytes) = true := hsz0
 have hval : ∀ (j : Nat) t v, Tryz.f3.params[j]? = some t → args[j]? = some v → Value.okWide Tryz.prog W .any base t v := hval0
 have hW' := hW
 obtain ⟨p, q, hA0, hV, rfl, hfz, hnd⟩ := hW
 have hA : DataW.TrodAll enc Tryz.prog W 0 (fun _ => true) true Tryz.f3.params.toList args.toList ds p := hA0
 rw [show Tryz.f3.params = #[22, 3, 3, 3, 3, 23] by kernel_rfl] at hA hval hsz
 obtain ⟨v0, vs0, d0, ds0, p0, q0, hargs, rfl, rfl, h0, r0⟩ := trodAll_cons hA
 obtain ⟨v1, vs1, d1, ds1, p1, q1, rfl, rfl, rfl, h1, r1⟩ := trodAll_cons r0
 obtain ⟨v2, vs2, d2, ds2, p2, q2, rfl, rfl, rfl, h2, r2⟩ := trodAll_cons r1
 obtain ⟨v3, vs3, d3, ds3, p3, q3, rfl, rfl, rfl, h3, r3⟩ := trodAll_cons r2
 obtain ⟨v4, vs4, d4, ds4, p4, q4, rfl, rfl, rfl, h4, r4⟩ := trodAll_cons r3
 obtain ⟨v5, vs5, d5, ds5, p5, q5, rfl, rfl, rfl, h5, r5⟩ := trodAll_cons r4
 obtain ⟨rfl, rfl, rfl⟩ := trodAll_nil r5
 obtain rfl : args = #[v0, v1, v2, v3, v4, v5] := by cases args; simp_all
 obtain ⟨rfl, rfl⟩ := trodVars_none hV
 obtain ⟨a0, len0, cap0, rfl⟩ := okWide_slice u0 (hval 0 22 v0 rfl rfl)
 have k0 := h0
 have lt0 : ∀ x ∈ p0, x.block < W.heap.size := by obtain ⟨m, hm⟩ := k0; exact DataW.trod_lt m _ _ _ hm
 obtain ⟨l0, rd0, wf0⟩ : ∃ l : List (den Gn.sta), Rd W (fun b => b < W.heap.size) (.sl Gn.sta) .ro l [.slice a0 len0 cap0] [] ∧ Wf (.sl Gn.sta) l := by
  obtain ⟨fuel, hf⟩ := h0
  exact L3 9 22 (.sl Gn.sta) fuel _ _ (by kernel_rfl) hf
 obtain ⟨a1, rfl, rfl, rfl, w1⟩ := open_int u1 (hval 1 3 v1 rfl rfl) h1
 obtain ⟨a2, rfl, rfl, rfl, w2⟩ := open_int u2 (hval 2 3 v2 rfl rfl) h2
 obtain ⟨a3, rfl, rfl, rfl, w3⟩ := open_int u3 (hval 3 3 v3 rfl rfl) h3
 obtain ⟨a4, rfl, rfl, rfl, w4⟩ := open_int u4 (hval 4 3 v4 rfl rfl) h4
 obtain ⟨a5, len5, cap5, rfl⟩ := okWide_slice u5 (hval 5 23 v5 rfl rfl)
 have k5 := h5
 have lt5 : ∀ x ∈ p5, x.block < W.heap.size := by obtain ⟨m, hm⟩ := k5; exact DataW.trod_lt m _ _ _ hm
 obtain ⟨l5, rd5, wf5⟩ : ∃ l : List (den (.int .u8)), Rd W (fun b => b < W.heap.size) (.sl (.int .u8)) .ro l [.slice a5 len5 cap5] [] ∧ Wf (.sl (.int .u8)) l := by
  obtain ⟨fuel, hf⟩ := h5
  exact L3 9 23 (.sl (.int .u8)) fuel _ _ (by kernel_rfl) hf
 clear hA0 hval0 hsz0 hsz
 refine (walk W a0 len0 cap0 l0 rd0 wf0 a1 w1 a2 w2 a3 w3 a4 w4 a5 len5 cap5 l5 rd5 wf5).mono fun e W' ⟨he, bel⟩ => ?_
 subst he
 exact ⟨_, rfl, _, _, _, [], _, [], hW', trodAll_mk1 (shut_bool (by kernel_rfl) _), (trodAll_cons_mk (Below.trod Xev (by kernel_rfl) (of_decide_eq_true (by kernel_rfl)) k0 bel lt0) (trodAll_cons_mk (shut_int u1 w1) (trodAll_cons_mk (shut_int u2 w2) (trodAll_cons_mk (shut_int u3 w3) (trodAll_cons_mk (shut_int u4 w4) (trodAll_cons_mk (Below.trod Xev (by kernel_rfl) (of_decide_eq_true (by kernel_rfl)) k5 bel lt5) trodAll_mk0)))))), rfl, bel.frame _, fun h => by cases h⟩
set_option maxRecDepth 100000 in
theorem Xxl : joinedFacts jP 3 jn js jc = true := by
 have h := Bo (Bo (Bo (Bo (Bo (Bo (Bo (Bo (Bo (Bo (Bo (Bo (Bo (Bo (Bo (Bo (Bo (Bo (Bo (Bo (Bo (Bo (Bo (Bo (Bo (Bo (Bo (Bo (Bo (Bo (Bo (j0) j1) j2) j3) j4) j5) j6) j7) j8) j9) j10) j11) j12) j13) j14) j15) j16) j17) j18) j19) j20) j21) j22) j23) j24) j25) j26) j27) j28) j29) j30) j31
 unfold joinedFacts
 exact h
theorem over : Rows.fnExactCarriedRow.holds Tryz.pinned (OpenSpec.ofChange Rows.fnExactCarriedSpec) :=
 OpenClaim.holds_of_wide 3 Tryz.f3 rfl rfl rfl rfl rfl rfl rfl ⟨rfl, rfl, rfl, rfl, rfl⟩ rfl rfl rfl rfl rfl (by kernel_rfl) Tryz.func3 Xxl
  (of_decide_eq_true (by kernel_rfl)) (by unfold Func.isWrapper; first | (rw [if_pos (by decide +kernel)]; kernel_rfl) | (rw [if_neg (by decide +kernel)]; exact ⟨rfl, rfl⟩))
  (fun os started H enc _ => lifted os started H enc)
theorem proved : Rows.FnExactCarriedSaid := over
#print axioms proved
end Go.Proofs.YtdmepjjepogddaaGreat.fnExactCarried
namespace Go.Proofs.YtdmepjjepogddaaGreat
theorem fnExactCarried_holds : Rows.FnExactCarriedSaid := fnExactCarried.proved
end Go.Proofs.YtdmepjjepogddaaGreat
end
