/-
  The program's SegmentsJoined returns what the reference's returns, for all arguments.
-/
import Derived.Test.YtamlndedbnkbmaaRows
import Derived.Test.YtamlndedbnkbmaaPxa
import Derived.Test.YtamlndedbnkbmaaRc
import Derived.WalkKit
import Derived.ProofKit
import Derived.OpenShut
import Derived.ShutString
import Derived.ChangeOld
import Derived.Below
import Derived.Carry
import Derived.SizedLaws

section
set_option linter.unusedVariables false
/-
  The program's SegmentsJoined returns what the reference's returns, for all arguments (rows of segments whose own rows are whole, whatever they are).
-/
namespace Go.Proofs.Ytamlndedbnkbmaa.fnExactSegmentsJoined
open Go.ChangeShapes Go.WideShapes Go.ChangeAt Go.RowKit Go.Rf
open Go.ChangeMaps (open_string shut_string)
theorem own : ownKnob Try.prog.godebug = none := by kernel_rfl
theorem laidOut : laidOutB Try.prog = true := by kernel_rfl
theorem u0 : Try.prog.underlying 37 = some (.slice 64) := by kernel_rfl
theorem walk (w : World) (a0 : Option Addr) (len0 cap0 : Nat) (l0 : List (den Gn.seg)) (hr0 : Rd w (fun b => b < w.heap.size) (.sl Gn.seg) .ro l0 [.slice a0 len0 cap0] []) (hw0 : Wf (.sl Gn.seg) l0) :
    Calls Try.prog 4 #[.slice a0 len0 cap0] w fun e w' => e = .returned (.bool true) ∧ Below w.heap.size w w' := by

  obtain ⟨k, h⟩ := Gn.pureXJ l0 hw0
  exact law_calls (bss := [[]]) (h.1 l0) ⟨hr0, trivial⟩ rfl rfl (r := true) h.2 rfl
set_option maxRecDepth 100000 in
theorem lifted (os : Os) (started : os.Started) (H : Type) (enc : TypeId × Value → H) :
    ReturnsInHanded {} Try.checked os 4 .any (Rows.fnExactSegmentsJoinedSpec.pre6 enc Try.prog Try.f4 Rows.fnExactSegmentsJoinedRow.domain false) (Rows.fnExactSegmentsJoinedSpec.post enc Try.prog Try.f4 false true false false) := by
  refine returnsInHanded_of_change_sized (C := Try.checked) own started (by kernel_rfl) Try.func4
    (ChangeSpec.witness6 (enc := enc) (C := Try.checked) false ⟨#[], #[.slice none 0 0], []⟩ 8 (by kernel_rfl) (by kernel_rfl) (by kernel_rfl) (by kernel_rfl)) ?_
  intro W base args ds gs before hval0 hW hcnd hsz0 _
  have hsz : (DataW.weightsEach Try.prog (Try.f4.params.toList ++ Rows.fnExactSegmentsJoinedSpec.plain.varTypes Try.prog) (ds ++ gs)).all (· ≤ reachBytes) = true := hsz0
  have hval : ∀ (j : Nat) t v, Try.f4.params[j]? = some t → args[j]? = some v → Value.okWide Try.prog W .any base t v := hval0
  have hW' := hW
  obtain ⟨p, q, hA0, hV, rfl, hfz, hnd⟩ := hW
  have hA : DataW.TrodAll enc Try.prog W 0 (fun _ => true) true Try.f4.params.toList args.toList ds p := hA0
  rw [show Try.f4.params = #[37] by kernel_rfl] at hA hval hsz
  obtain ⟨v0, vs0, d0, ds0, p0, q0, hargs, rfl, rfl, h0, r0⟩ := trodAll_cons hA
  obtain ⟨rfl, rfl, rfl⟩ := trodAll_nil r0
  obtain rfl : args = #[v0] := by cases args; simp_all
  obtain ⟨rfl, rfl⟩ := trodVars_none hV
  obtain ⟨a0, len0, cap0, rfl⟩ := okWide_slice u0 (hval 0 37 v0 rfl rfl)
  have k0 := h0
  have lt0 : ∀ x ∈ p0, x.block < W.heap.size := by obtain ⟨m, hm⟩ := k0; exact DataW.trod_lt m _ _ _ hm
  obtain ⟨l0, rd0, wf0⟩ : ∃ l : List (den Gn.seg), Rd W (fun b => b < W.heap.size) (.sl Gn.seg) .ro l [.slice a0 len0 cap0] [] ∧ Wf (.sl Gn.seg) l := by
    obtain ⟨fuel, hf⟩ := h0
    exact trod_any 9 37 (.sl Gn.seg) fuel _ _ (by kernel_rfl) hf
  clear hA0 hval0 hsz0 hsz
  refine (walk W a0 len0 cap0 l0 rd0 wf0).mono fun e W' ⟨he, bel⟩ => ?_
  subst he
  exact ⟨_, rfl, _, _, _, [], _, [], hW', trodAll_mk1 (shut_bool (by kernel_rfl) _), (trodAll_cons_mk (Below.trod laidOut (by kernel_rfl) (of_decide_eq_true (by kernel_rfl)) k0 bel lt0) trodAll_mk0), rfl, bel.frame _, fun h => by cases h⟩
theorem over : Rows.fnExactSegmentsJoinedRow.holds Try.pinned (OpenSpec.ofChange Rows.fnExactSegmentsJoinedSpec) :=
  OpenClaim.holds_of_wide 4 Try.f4 rfl rfl rfl rfl rfl rfl rfl ⟨rfl, rfl, rfl, rfl, rfl⟩ rfl rfl rfl rfl rfl (by kernel_rfl) Try.func4 (by kernel_rfl)
    (of_decide_eq_true (by kernel_rfl)) (by unfold Func.isWrapper; first | (rw [if_pos (by decide +kernel)]; kernel_rfl) | (rw [if_neg (by decide +kernel)]; exact ⟨rfl, rfl⟩))
    (fun os started H enc _ => lifted os started H enc)
theorem proved : Rows.FnExactSegmentsJoinedSaid := over
#print axioms proved
end Go.Proofs.Ytamlndedbnkbmaa.fnExactSegmentsJoined
namespace Go.Proofs.Ytamlndedbnkbmaa
/-- The row, under a short name, for the claim. -/
theorem fnExactSegmentsJoined_holds : Rows.FnExactSegmentsJoinedSaid := fnExactSegmentsJoined.proved
end Go.Proofs.Ytamlndedbnkbmaa
end
