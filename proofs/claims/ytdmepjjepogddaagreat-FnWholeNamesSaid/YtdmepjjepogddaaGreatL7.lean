/-
  The law FnWholeNames holds of the given program: who is found by a name is reached.
-/
import Derived.Test.YtdmepjjepogddaaGreatRows
import Derived.WalkKit
import Derived.ProofKit
import Derived.OpenShut
import Derived.ShutString
import Derived.ChangeOld
import Derived.Below
import Derived.Carry
import Derived.SizedLaws
import Derived.Test.YtdmepjjepogddaaGreatA6
section
namespace Go.Proofs.YtdmepjjepogddaaGreat.fnWholeNames
open Go.ChangeShapes Go.WideShapes Go.ChangeAt Go.RowKit Go.Rf
open Go.ChangeMaps (open_string shut_string)
set_option linter.unusedVariables false
theorem own : ownKnob Tryz.prog.godebug = none := by kernel_rfl
theorem Xw7 : laidOutB Tryz.prog = true := by kernel_rfl
theorem u0 : Tryz.prog.underlying 23 = some (.slice 5) := by kernel_rfl
theorem walk (w : World) (a0 : Option Addr) (len0 cap0 : Nat) (l0 : List (den (.int .u8))) (hl0 : l0.length = len0) (hr0 : Rd w (fun b => b < w.heap.size) (.sl (.int .u8)) .ro l0 [.slice a0 len0 cap0] []) (hw0 : Wf (.sl (.int .u8)) l0) (y0 : len0 * 1 ≤ 140737488351232) :
  Calls Tryz.prog 7 #[.slice a0 len0 cap0] w fun e w' => e = .returned (.bool true) ∧ Below w.heap.size w w' := by
 subst hl0
 obtain ⟨k, h⟩ := Gn.X3i l0 hw0 y0
 exact Xjh (bss := [[]]) (h.1 l0) ⟨hr0, trivial⟩ rfl rfl (r := true) h.2 rfl
set_option maxRecDepth 100000 in
theorem lifted (os : Os) (started : os.Started) (H : Type) (enc : TypeId × Value → H) :
  ReturnsInHanded {} Tryz.checked os 7 .any (Rows.fnWholeNamesSpec.pre6 enc Tryz.prog Tryz.f7 Rows.fnWholeNamesRow.domain false) (Rows.fnWholeNamesSpec.post enc Tryz.prog Tryz.f7 false true false false) := by
 refine returnsInHanded_of_change_sized (C := Tryz.checked) own started (by kernel_rfl) Tryz.func7
  (ChangeSpec.witness6 (enc := enc) (C := Tryz.checked) false ⟨#[], #[.slice none 0 0], []⟩ 8 (by kernel_rfl) (by kernel_rfl) (by kernel_rfl) (by kernel_rfl)) ?_
 intro W base args ds gs before hval0 hW hcnd hsz0 _
 have hsz : (DataW.weightsEach Tryz.prog (Tryz.f7.params.toList ++ Rows.fnWholeNamesSpec.plain.varTypes Tryz.prog) (ds ++ gs)).all (· ≤ reachBytes) = true := hsz0
 have hval : ∀ (j : Nat) t v, Tryz.f7.params[j]? = some t → args[j]? = some v → Value.okWide Tryz.prog W .any base t v := hval0
 have hW' := hW
 obtain ⟨p, q, hA0, hV, rfl, hfz, hnd⟩ := hW
 have hA : DataW.TrodAll enc Tryz.prog W 0 (fun _ => true) true Tryz.f7.params.toList args.toList ds p := hA0
 rw [show Tryz.f7.params = #[23] by kernel_rfl] at hA hval hsz
 obtain ⟨v0, vs0, d0, ds0, p0, q0, hargs, rfl, rfl, h0, r0⟩ := trodAll_cons hA
 obtain ⟨rfl, rfl, rfl⟩ := trodAll_nil r0
 obtain rfl : args = #[v0] := by cases args; simp_all
 obtain ⟨rfl, rfl⟩ := trodVars_none hV
 obtain ⟨a0, len0, cap0, rfl⟩ := okWide_slice u0 (hval 0 23 v0 rfl rfl)
 have sp0 := Xak u0 (hval 0 23 _ rfl rfl)
 have k0 := h0
 have lt0 : ∀ x ∈ p0, x.block < W.heap.size := by obtain ⟨m, hm⟩ := k0; exact DataW.trod_lt m _ _ _ hm
 have y0 : len0 * 1 ≤ 140737488351232 := Xkv hsz (j := 0) (t := 23) rfl rfl u0 (by kernel_rfl) h0
 obtain ⟨l0, n0, rd0, wf0⟩ : ∃ l : List (den (.int .u8)), l.length = len0 ∧ Rd W (fun b => b < W.heap.size) (.sl (.int .u8)) .ro l [.slice a0 len0 cap0] [] ∧ Wf (.sl (.int .u8)) l := by
  obtain ⟨fuel, hf⟩ := h0
  exact trod_slice (n := 8) u0 (by kernel_rfl) (by kernel_rfl) (by kernel_rfl) (by decide) sp0 hf
 clear hA0 hval0 hsz0 hsz
 refine (walk W a0 len0 cap0 l0 n0 rd0 wf0 y0).mono fun e W' ⟨he, bel⟩ => ?_
 subst he
 exact ⟨_, rfl, _, _, _, [], _, [], hW', trodAll_mk1 (shut_bool (by kernel_rfl) _), (trodAll_cons_mk (Below.trod Xw7 (by kernel_rfl) (of_decide_eq_true (by kernel_rfl)) k0 bel lt0) trodAll_mk0), rfl, bel.frame _, fun h => by cases h⟩
set_option maxRecDepth 100000 in
theorem X52 : joinedFacts jP 7 jn js jc = true := by
 have h := Bt (Bt (Bt (Bt (Bt (Bt (Bt (Bt (Bt (Bt (Bt (Bt (Bt (Bt (Bt (Bt (Bt (Bt (Bt (Bt (Bt (Bt (Bt (Bt (Bt (Bt (Bt (Bt (Bt (Bt (Bt (j0) j1) j2) j3) j4) j5) j6) j7) j8) j9) j10) j11) j12) j13) j14) j15) j16) j17) j18) j19) j20) j21) j22) j23) j24) j25) j26) j27) j28) j29) j30) j31
 unfold joinedFacts
 exact h
theorem over : Rows.fnWholeNamesRow.holds Tryz.pinned (OpenSpec.ofChange Rows.fnWholeNamesSpec) :=
 OpenClaim.holds_of_wide 7 Tryz.f7 rfl rfl rfl rfl rfl rfl rfl ⟨rfl, rfl, rfl, rfl, rfl⟩ rfl rfl rfl rfl rfl (by kernel_rfl) Tryz.func7 X52
  (of_decide_eq_true (by kernel_rfl)) (by unfold Func.isWrapper; first | (rw [if_pos (by decide +kernel)]; kernel_rfl) | (rw [if_neg (by decide +kernel)]; exact ⟨rfl, rfl⟩))
  (fun os started H enc _ => lifted os started H enc)
theorem proved : Rows.FnWholeNamesSaid := over
#print axioms proved
end Go.Proofs.YtdmepjjepogddaaGreat.fnWholeNames
namespace Go.Proofs.YtdmepjjepogddaaGreat
theorem fnWholeNames_holds : Rows.FnWholeNamesSaid := fnWholeNames.proved
end Go.Proofs.YtdmepjjepogddaaGreat
end
