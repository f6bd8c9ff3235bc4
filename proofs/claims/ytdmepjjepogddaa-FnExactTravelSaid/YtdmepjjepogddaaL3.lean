/-
  The program's travel answers as the reference's.
-/
import Derived.Test.YtdmepjjepogddaaRows
import Derived.WalkKit
import Derived.ProofKit
import Derived.OpenShut
import Derived.ShutString
import Derived.ChangeOld
import Derived.Below
import Derived.Carry
import Derived.SizedLaws
import Derived.Test.YtdmepjjepogddaaA5
section
namespace Go.Proofs.Ytdmepjjepogddaa.fnExactTravel
open Go.ChangeShapes Go.WideShapes Go.ChangeAt Go.RowKit Go.Rf
open Go.ChangeMaps (open_string shut_string)
set_option linter.unusedVariables false
theorem own : ownKnob Try.prog.godebug = none := by kernel_rfl
theorem V1 : laidOutB Try.prog = true := by kernel_rfl
theorem u0 : Try.prog.underlying 22 = some (.slice 46) := by kernel_rfl
theorem u1 : Try.prog.underlying 3 = some (.int .i64) := by kernel_rfl
theorem u2 : ∃ fs, Try.prog.underlying 25 = some (.struct fs) := Xty (by kernel_rfl)
theorem walk (w : World) (a0 : Option Addr) (len0 cap0 : Nat) (l0 : List (den Gn.sta)) (hr0 : Rd w (fun b => b < w.heap.size) (.sl Gn.sta) .ro l0 [.slice a0 len0 cap0] []) (hw0 : Wf (.sl Gn.sta) l0) (a1 : Int) (w1 : (Lit.int .i64 a1).wf = true) (cs2 : Array Value) (x2 : den Gn.An) (hr2 : Rd w (fun b => b < w.heap.size) Gn.An .ro x2 cs2.toList []) (hw2 : Wf Gn.An x2) :
  Calls Try.prog 3 #[.slice a0 len0 cap0, .int .i64 a1, .agg cs2] w fun e w' => e = .returned (.bool true) ∧ Below w.heap.size w w' := by
 obtain ⟨k, h⟩ := Gn.Xk5 l0 hw0 a1 w1 x2 hw2
 exact Zb (bss := [[], [], []]) (h.1 l0 a1 x2) ⟨hr0, (show _ ∧ _ from ⟨rfl, rfl⟩), Xlw hr2, trivial⟩ rfl (by simp only [Ja, Xfe, List.append_nil] <;> rfl) (r := true) h.2 rfl
set_option maxRecDepth 100000 in
theorem lifted (os : Os) (started : os.Started) (H : Type) (enc : TypeId × Value → H) :
  ReturnsInHanded {} Try.checked os 3 .any (Rows.fnExactTravelSpec.pre6 enc Try.prog Try.f3 Rows.fnExactTravelRow.domain false) (Rows.fnExactTravelSpec.post enc Try.prog Try.f3 false true false false) := by
 refine returnsInHanded_of_change_sized (C := Try.checked) own started (by kernel_rfl) Try.func3
  (ChangeSpec.witness6 (enc := enc) (C := Try.checked) false ⟨#[], #[.slice none 0 0, .int .i64 0, .agg (Rf.zv Gn.An).toArray], []⟩ 8 (by kernel_rfl) (by kernel_rfl) (by kernel_rfl) (by kernel_rfl)) ?_
 intro W base args ds gs before hval0 hW hcnd hsz0 _
 have hsz : (DataW.weightsEach Try.prog (Try.f3.params.toList ++ Rows.fnExactTravelSpec.plain.varTypes Try.prog) (ds ++ gs)).all (· ≤ reachBytes) = true := hsz0
 have hval : ∀ (j : Nat) t v, Try.f3.params[j]? = some t → args[j]? = some v → Value.okWide Try.prog W .any base t v := hval0
 have hW' := hW
 obtain ⟨p, q, hA0, hV, rfl, hfz, hnd⟩ := hW
 have hA : DataW.TrodAll enc Try.prog W 0 (fun _ => true) true Try.f3.params.toList args.toList ds p := hA0
 rw [show Try.f3.params = #[22, 3, 25] by kernel_rfl] at hA hval hsz
 obtain ⟨v0, vs0, d0, ds0, p0, q0, hargs, rfl, rfl, h0, r0⟩ := trodAll_cons hA
 obtain ⟨v1, vs1, d1, ds1, p1, q1, rfl, rfl, rfl, h1, r1⟩ := trodAll_cons r0
 obtain ⟨v2, vs2, d2, ds2, p2, q2, rfl, rfl, rfl, h2, r2⟩ := trodAll_cons r1
 obtain ⟨rfl, rfl, rfl⟩ := trodAll_nil r2
 obtain rfl : args = #[v0, v1, v2] := by cases args; simp_all
 obtain ⟨rfl, rfl⟩ := trodVars_none hV
 obtain ⟨a0, len0, cap0, rfl⟩ := okWide_slice u0 (hval 0 22 v0 rfl rfl)
 have k0 := h0
 have lt0 : ∀ x ∈ p0, x.block < W.heap.size := by obtain ⟨m, hm⟩ := k0; exact DataW.trod_lt m _ _ _ hm
 obtain ⟨l0, rd0, wf0⟩ : ∃ l : List (den Gn.sta), Rd W (fun b => b < W.heap.size) (.sl Gn.sta) .ro l [.slice a0 len0 cap0] [] ∧ Wf (.sl Gn.sta) l := by
  obtain ⟨fuel, hf⟩ := h0
  exact Ka 9 22 (.sl Gn.sta) fuel _ _ (by kernel_rfl) hf
 obtain ⟨a1, rfl, rfl, rfl, w1⟩ := open_int u1 (hval 1 3 v1 rfl rfl) h1
 obtain ⟨cs2, rfl⟩ : ∃ cs, v2 = .agg cs := by obtain ⟨fs, hfs⟩ := u2; exact Ri hfs (hval 2 25 v2 rfl rfl)
 have k2 := h2
 have lt2 : ∀ x ∈ p2, x.block < W.heap.size := by obtain ⟨m, hm⟩ := k2; exact DataW.trod_lt m _ _ _ hm
 obtain ⟨x2, rd2, wf2⟩ : ∃ x : den Gn.An, Rd W (fun b => b < W.heap.size) Gn.An .ro x cs2.toList [] ∧ Wf Gn.An x := by
  obtain ⟨fuel, hf⟩ := h2
  exact Ka 9 25 Gn.An fuel _ _ (by kernel_rfl) hf
 clear hA0 hval0 hsz0 hsz
 refine (walk W a0 len0 cap0 l0 rd0 wf0 a1 w1 cs2 x2 rd2 wf2).mono fun e W' ⟨he, bel⟩ => ?_
 subst he
 exact ⟨_, rfl, _, _, _, [], _, [], hW', trodAll_mk1 (shut_bool (by kernel_rfl) _), (trodAll_cons_mk (Below.trod V1 (by kernel_rfl) (of_decide_eq_true (by kernel_rfl)) k0 bel lt0) (trodAll_cons_mk (shut_int u1 w1) (trodAll_cons_mk (Below.trod V1 (by kernel_rfl) (of_decide_eq_true (by kernel_rfl)) k2 bel lt2) trodAll_mk0))), rfl, bel.frame _, fun h => by cases h⟩
theorem over : Rows.fnExactTravelRow.holds Try.pinned (OpenSpec.ofChange Rows.fnExactTravelSpec) :=
 OpenClaim.holds_of_wide 3 Try.f3 rfl rfl rfl rfl rfl rfl rfl ⟨rfl, rfl, rfl, rfl, rfl⟩ rfl rfl rfl rfl rfl (by kernel_rfl) Try.func3 (by kernel_rfl)
  (of_decide_eq_true (by kernel_rfl)) (by unfold Func.isWrapper; first | (rw [if_pos (by decide +kernel)]; kernel_rfl) | (rw [if_neg (by decide +kernel)]; exact ⟨rfl, rfl⟩))
  (fun os started H enc _ => lifted os started H enc)
theorem proved : Rows.FnExactTravelSaid := over
#print axioms proved
end Go.Proofs.Ytdmepjjepogddaa.fnExactTravel
namespace Go.Proofs.Ytdmepjjepogddaa
theorem fnExactTravel_holds : Rows.FnExactTravelSaid := fnExactTravel.proved
end Go.Proofs.Ytdmepjjepogddaa
end
