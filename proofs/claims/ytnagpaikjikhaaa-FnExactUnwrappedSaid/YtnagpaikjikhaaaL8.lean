/-
  The program's Unwrapped returns what the reference's returns, for all arguments.
-/
import Derived.Test.YtnagpaikjikhaaaRows
import Derived.WalkKit
import Derived.ProofKit
import Derived.OpenShut
import Derived.ShutString
import Derived.ChangeOld
import Derived.Below
import Derived.Carry
import Derived.SizedLaws
import Derived.Test.YtnagpaikjikhaaaA5
section
namespace Go.Proofs.Ytnagpaikjikhaaa.fnExactUnwrapped
open Go.ChangeShapes Go.WideShapes Go.ChangeAt Go.RowKit Go.Rf
open Go.ChangeMaps (open_string shut_string)
set_option linter.unusedVariables false
theorem own : ownKnob Try.prog.godebug = none := by kernel_rfl
theorem laidOut : laidOutB Try.prog = true := by kernel_rfl
theorem u0 : Try.prog.underlying 22 = some (.slice 5) := by kernel_rfl
theorem u1 : Try.prog.underlying 3 = some (.int .i64) := by kernel_rfl
theorem u2 : Try.prog.underlying 3 = some (.int .i64) := by kernel_rfl
theorem walk (w : World) (a0 : Option Addr) (len0 cap0 : Nat) (l0 : List (den (.int .u8))) (hl0 : l0.length = len0) (hr0 : Rd w (fun b => b < w.heap.size) (.sl (.int .u8)) .ro l0 [.slice a0 len0 cap0] []) (hw0 : Wf (.sl (.int .u8)) l0) (y0 : len0 * 1 ≤ 140737488351232) (a1 : Int) (w1 : (Lit.int .i64 a1).wf = true) (a2 : Int) (w2 : (Lit.int .i64 a2).wf = true) :
    Calls Try.prog 8 #[.slice a0 len0 cap0, .int .i64 a1, .int .i64 a2] w fun e w' => e = .returned (.bool true) ∧ Below w.heap.size w w' := by
  subst hl0
  obtain ⟨k, h⟩ := Gn.pureXU l0 hw0 y0 a1 w1 a2 w2
  exact law_calls (bss := [[], [], []]) (h.1 l0 a1 a2) ⟨hr0, (show _ ∧ _ from ⟨rfl, rfl⟩), (show _ ∧ _ from ⟨rfl, rfl⟩), trivial⟩ rfl rfl (r := true) h.2 rfl
set_option maxRecDepth 100000 in
theorem lifted (os : Os) (started : os.Started) (H : Type) (enc : TypeId × Value → H) :
    ReturnsInHanded {} Try.checked os 8 .any (Rows.fnExactUnwrappedSpec.pre6 enc Try.prog Try.f8 Rows.fnExactUnwrappedRow.domain false) (Rows.fnExactUnwrappedSpec.post enc Try.prog Try.f8 false true false false) := by
  refine returnsInHanded_of_change_sized (C := Try.checked) own started (by kernel_rfl) Try.func8
    (ChangeSpec.witness6 (enc := enc) (C := Try.checked) false ⟨#[], #[.slice none 0 0, .int .i64 0, .int .i64 0], []⟩ 8 (by kernel_rfl) (by kernel_rfl) (by kernel_rfl) (by kernel_rfl)) ?_
  intro W base args ds gs before hval0 hW hcnd hsz0 _
  have hsz : (DataW.weightsEach Try.prog (Try.f8.params.toList ++ Rows.fnExactUnwrappedSpec.plain.varTypes Try.prog) (ds ++ gs)).all (· ≤ reachBytes) = true := hsz0
  have hval : ∀ (j : Nat) t v, Try.f8.params[j]? = some t → args[j]? = some v → Value.okWide Try.prog W .any base t v := hval0
  have hW' := hW
  obtain ⟨p, q, hA0, hV, rfl, hfz, hnd⟩ := hW
  have hA : DataW.TrodAll enc Try.prog W 0 (fun _ => true) true Try.f8.params.toList args.toList ds p := hA0
  rw [show Try.f8.params = #[22, 3, 3] by kernel_rfl] at hA hval hsz
  obtain ⟨v0, vs0, d0, ds0, p0, q0, hargs, rfl, rfl, h0, r0⟩ := trodAll_cons hA
  obtain ⟨v1, vs1, d1, ds1, p1, q1, rfl, rfl, rfl, h1, r1⟩ := trodAll_cons r0
  obtain ⟨v2, vs2, d2, ds2, p2, q2, rfl, rfl, rfl, h2, r2⟩ := trodAll_cons r1
  obtain ⟨rfl, rfl, rfl⟩ := trodAll_nil r2
  obtain rfl : args = #[v0, v1, v2] := by cases args; simp_all
  obtain ⟨rfl, rfl⟩ := trodVars_none hV
  obtain ⟨a0, len0, cap0, rfl⟩ := okWide_slice u0 (hval 0 22 v0 rfl rfl)
  have sp0 := okWide_spot u0 (hval 0 22 _ rfl rfl)
  have k0 := h0
  have lt0 : ∀ x ∈ p0, x.block < W.heap.size := by obtain ⟨m, hm⟩ := k0; exact DataW.trod_lt m _ _ _ hm
  have y0 : len0 * 1 ≤ 140737488351232 := sized_row hsz (j := 0) (t := 22) rfl rfl u0 (by kernel_rfl) h0
  obtain ⟨l0, n0, rd0, wf0⟩ : ∃ l : List (den (.int .u8)), l.length = len0 ∧ Rd W (fun b => b < W.heap.size) (.sl (.int .u8)) .ro l [.slice a0 len0 cap0] [] ∧ Wf (.sl (.int .u8)) l := by
    obtain ⟨fuel, hf⟩ := h0
    exact trod_slice (n := 8) u0 (by kernel_rfl) (by kernel_rfl) (by kernel_rfl) (by decide) sp0 hf
  obtain ⟨a1, rfl, rfl, rfl, w1⟩ := open_int u1 (hval 1 3 v1 rfl rfl) h1
  obtain ⟨a2, rfl, rfl, rfl, w2⟩ := open_int u2 (hval 2 3 v2 rfl rfl) h2
  clear hA0 hval0 hsz0 hsz
  refine (walk W a0 len0 cap0 l0 n0 rd0 wf0 y0 a1 w1 a2 w2).mono fun e W' ⟨he, bel⟩ => ?_
  subst he
  exact ⟨_, rfl, _, _, _, [], _, [], hW', trodAll_mk1 (shut_bool (by kernel_rfl) _), (trodAll_cons_mk (Below.trod laidOut (by kernel_rfl) (of_decide_eq_true (by kernel_rfl)) k0 bel lt0) (trodAll_cons_mk (shut_int u1 w1) (trodAll_cons_mk (shut_int u2 w2) trodAll_mk0))), rfl, bel.frame _, fun h => by cases h⟩
theorem over : Rows.fnExactUnwrappedRow.holds Try.pinned (OpenSpec.ofChange Rows.fnExactUnwrappedSpec) :=
  OpenClaim.holds_of_wide 8 Try.f8 rfl rfl rfl rfl rfl rfl rfl ⟨rfl, rfl, rfl, rfl, rfl⟩ rfl rfl rfl rfl rfl (by kernel_rfl) Try.func8 (by kernel_rfl)
    (of_decide_eq_true (by kernel_rfl)) (by unfold Func.isWrapper; first | (rw [if_pos (by decide +kernel)]; kernel_rfl) | (rw [if_neg (by decide +kernel)]; exact ⟨rfl, rfl⟩))
    (fun os started H enc _ => lifted os started H enc)
theorem proved : Rows.FnExactUnwrappedSaid := over
#print axioms proved
end Go.Proofs.Ytnagpaikjikhaaa.fnExactUnwrapped
namespace Go.Proofs.Ytnagpaikjikhaaa
theorem fnExactUnwrapped_holds : Rows.FnExactUnwrappedSaid := fnExactUnwrapped.proved
end Go.Proofs.Ytnagpaikjikhaaa
end
