/-
  The program's SegmentCut returns what the reference's returns, for all arguments.
-/
import Derived.Test.YtnagpaikjikhaaaRows
import Derived.Test.YtnagpaikjikhaaaPca
import Derived.Test.YtnagpaikjikhaaaRc
import Derived.WalkKit
import Derived.ProofKit
import Derived.OpenShut
import Derived.ShutString
import Derived.ChangeOld
import Derived.Below
import Derived.Carry
import Derived.SizedLaws

section
set_option linter.unusedVariables false
/-
  The program's SegmentCut returns what the reference's returns, for all arguments (a segment's rows whole, whatever they are).
-/
namespace Go.Proofs.Ytnagpaikjikhaaa.fnExactSegmentCut
open Go.ChangeShapes Go.WideShapes Go.ChangeAt Go.RowKit Go.Rf
open Go.ChangeMaps (open_string shut_string)
theorem own : ownKnob Try.prog.godebug = none := by kernel_rfl
theorem laidOut : laidOutB Try.prog = true := by kernel_rfl
theorem u0 : ∃ fs, Try.prog.underlying 43 = some (.struct fs) := st_of (by kernel_rfl)
theorem u1 : Try.prog.underlying 3 = some (.int .i64) := by kernel_rfl
theorem walk (w : World) (cs0 : Array Value) (x0 : den Gn.seg) (hr0 : Rd w (fun b => b < w.heap.size) Gn.seg .ro x0 cs0.toList []) (hw0 : Wf Gn.seg x0) (a1 : Int) (w1 : (Lit.int .i64 a1).wf = true) :
    Calls Try.prog 5 #[.agg cs0, .int .i64 a1] w fun e w' => e = .returned (.bool true) ∧ Below w.heap.size w w' := by

  obtain ⟨k, h⟩ := Gn.pureXC x0 hw0 a1 w1
  exact law_calls (bss := [[], []]) (h.1 x0 a1) ⟨argAgg hr0, (show _ ∧ _ from ⟨rfl, rfl⟩), trivial⟩ rfl (by simp only [bkAs, bkA_agg, List.append_nil] <;> rfl) (r := true) h.2 rfl
set_option maxRecDepth 100000 in
theorem lifted (os : Os) (started : os.Started) (H : Type) (enc : TypeId × Value → H) :
    ReturnsInHanded {} Try.checked os 5 .any (Rows.fnExactSegmentCutSpec.pre6 enc Try.prog Try.f5 Rows.fnExactSegmentCutRow.domain false) (Rows.fnExactSegmentCutSpec.post enc Try.prog Try.f5 false true false false) := by
  refine returnsInHanded_of_change_sized (C := Try.checked) own started (by kernel_rfl) Try.func5
    (ChangeSpec.witness6 (enc := enc) (C := Try.checked) false ⟨#[], #[.agg (Rf.zv Gn.seg).toArray, .int .i64 0], []⟩ 8 (by kernel_rfl) (by kernel_rfl) (by kernel_rfl) (by kernel_rfl)) ?_
  intro W base args ds gs before hval0 hW hcnd hsz0 _
  have hsz : (DataW.weightsEach Try.prog (Try.f5.params.toList ++ Rows.fnExactSegmentCutSpec.plain.varTypes Try.prog) (ds ++ gs)).all (· ≤ reachBytes) = true := hsz0
  have hval : ∀ (j : Nat) t v, Try.f5.params[j]? = some t → args[j]? = some v → Value.okWide Try.prog W .any base t v := hval0
  have hW' := hW
  obtain ⟨p, q, hA0, hV, rfl, hfz, hnd⟩ := hW
  have hA : DataW.TrodAll enc Try.prog W 0 (fun _ => true) true Try.f5.params.toList args.toList ds p := hA0
  rw [show Try.f5.params = #[43, 3] by kernel_rfl] at hA hval hsz
  obtain ⟨v0, vs0, d0, ds0, p0, q0, hargs, rfl, rfl, h0, r0⟩ := trodAll_cons hA
  obtain ⟨v1, vs1, d1, ds1, p1, q1, rfl, rfl, rfl, h1, r1⟩ := trodAll_cons r0
  obtain ⟨rfl, rfl, rfl⟩ := trodAll_nil r1
  obtain rfl : args = #[v0, v1] := by cases args; simp_all
  obtain ⟨rfl, rfl⟩ := trodVars_none hV
  obtain ⟨cs0, rfl⟩ : ∃ cs, v0 = .agg cs := by obtain ⟨fs, hfs⟩ := u0; exact okWide_cells hfs (hval 0 43 v0 rfl rfl)
  have k0 := h0
  have lt0 : ∀ x ∈ p0, x.block < W.heap.size := by obtain ⟨m, hm⟩ := k0; exact DataW.trod_lt m _ _ _ hm
  obtain ⟨x0, rd0, wf0⟩ : ∃ x : den Gn.seg, Rd W (fun b => b < W.heap.size) Gn.seg .ro x cs0.toList [] ∧ Wf Gn.seg x := by
    obtain ⟨fuel, hf⟩ := h0
    exact trod_any 9 43 Gn.seg fuel _ _ (by kernel_rfl) hf
  obtain ⟨a1, rfl, rfl, rfl, w1⟩ := open_int u1 (hval 1 3 v1 rfl rfl) h1
  clear hA0 hval0 hsz0 hsz
  refine (walk W cs0 x0 rd0 wf0 a1 w1).mono fun e W' ⟨he, bel⟩ => ?_
  subst he
  exact ⟨_, rfl, _, _, _, [], _, [], hW', trodAll_mk1 (shut_bool (by kernel_rfl) _), (trodAll_cons_mk (Below.trod laidOut (by kernel_rfl) (of_decide_eq_true (by kernel_rfl)) k0 bel lt0) (trodAll_cons_mk (shut_int u1 w1) trodAll_mk0)), rfl, bel.frame _, fun h => by cases h⟩
theorem over : Rows.fnExactSegmentCutRow.holds Try.pinned (OpenSpec.ofChange Rows.fnExactSegmentCutSpec) :=
  OpenClaim.holds_of_wide 5 Try.f5 rfl rfl rfl rfl rfl rfl rfl ⟨rfl, rfl, rfl, rfl, rfl⟩ rfl rfl rfl rfl rfl (by kernel_rfl) Try.func5 (by kernel_rfl)
    (of_decide_eq_true (by kernel_rfl)) (by unfold Func.isWrapper; first | (rw [if_pos (by decide +kernel)]; kernel_rfl) | (rw [if_neg (by decide +kernel)]; exact ⟨rfl, rfl⟩))
    (fun os started H enc _ => lifted os started H enc)
theorem proved : Rows.FnExactSegmentCutSaid := over
#print axioms proved
end Go.Proofs.Ytnagpaikjikhaaa.fnExactSegmentCut
namespace Go.Proofs.Ytnagpaikjikhaaa
/-- The row, under a short name, for the claim. -/
theorem fnExactSegmentCut_holds : Rows.FnExactSegmentCutSaid := fnExactSegmentCut.proved
end Go.Proofs.Ytnagpaikjikhaaa
end
