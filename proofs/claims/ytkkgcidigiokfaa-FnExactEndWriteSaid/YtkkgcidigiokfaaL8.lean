/-
  The program's EndWrite returns what the reference's returns, for all arguments.
-/
import Derived.Test.YtkkgcidigiokfaaRows
import Derived.Test.YtkkgcidigiokfaaPeb
import Derived.Test.YtkkgcidigiokfaaRc
import Derived.WalkKit
import Derived.ProofKit
import Derived.OpenShut
import Derived.ShutString
import Derived.ChangeOld
import Derived.Below
import Derived.Carry
import Derived.SizedLaws

section
set_option linter.unusedVariables false
/-
  The program's EndWrite returns what the reference's returns, for all arguments (an end's rows whole, whatever they are).
-/
namespace Go.Proofs.Ytkkgcidigiokfaa.fnExactEndWrite
open Go.ChangeShapes Go.WideShapes Go.ChangeAt Go.RowKit Go.Rf
open Go.ChangeMaps (open_string shut_string)
theorem own : ownKnob Try.prog.godebug = none := by kernel_rfl
theorem laidOut : laidOutB Try.prog = true := by kernel_rfl
theorem u0 : ∃ fs, Try.prog.underlying 44 = some (.struct fs) := st_of (by kernel_rfl)
theorem u1 : Try.prog.underlying 23 = some (.slice 5) := by kernel_rfl
theorem u2 : Try.prog.underlying 3 = some (.int .i64) := by kernel_rfl
theorem walk (w : World) (cs0 : Array Value) (x0 : den Gn.fin) (hr0 : Rd w (fun b => b < w.heap.size) Gn.fin .ro x0 cs0.toList []) (hw0 : Wf Gn.fin x0) (a1 : Option Addr) (len1 cap1 : Nat) (l1 : List (den (.int .u8))) (hl1 : l1.length = len1) (hr1 : Rd w (fun b => b < w.heap.size) (.sl (.int .u8)) .ro l1 [.slice a1 len1 cap1] []) (hw1 : Wf (.sl (.int .u8)) l1) (y1 : len1 * 1 ≤ 140737488351232) (a2 : Int) (w2 : (Lit.int .i64 a2).wf = true) :
    Calls Try.prog 8 #[.agg cs0, .slice a1 len1 cap1, .int .i64 a2] w fun e w' => e = .returned (.bool true) ∧ Below w.heap.size w w' := by
  subst hl1
  obtain ⟨k, h⟩ := Gn.pureL x0 hw0 l1 hw1 y1 a2 w2
  exact law_calls (bss := [[], [], []]) (h.1 x0 l1 a2) ⟨argAgg hr0, hr1, (show _ ∧ _ from ⟨rfl, rfl⟩), trivial⟩ rfl (by simp only [bkAs, bkA_agg, List.append_nil] <;> rfl) (r := true) h.2 rfl
set_option maxRecDepth 100000 in
theorem lifted (os : Os) (started : os.Started) (H : Type) (enc : TypeId × Value → H) :
    ReturnsInHanded {} Try.checked os 8 .any (Rows.fnExactEndWriteSpec.pre6 enc Try.prog Try.f8 Rows.fnExactEndWriteRow.domain false) (Rows.fnExactEndWriteSpec.post enc Try.prog Try.f8 false true false false) := by
  refine returnsInHanded_of_change_sized (C := Try.checked) own started (by kernel_rfl) Try.func8
    (ChangeSpec.witness6 (enc := enc) (C := Try.checked) false ⟨#[], #[.agg (Rf.zv Gn.fin).toArray, .slice none 0 0, .int .i64 0], []⟩ 8 (by kernel_rfl) (by kernel_rfl) (by kernel_rfl) (by kernel_rfl)) ?_
  intro W base args ds gs before hval0 hW hcnd hsz0 _
  have hsz : (DataW.weightsEach Try.prog (Try.f8.params.toList ++ Rows.fnExactEndWriteSpec.plain.varTypes Try.prog) (ds ++ gs)).all (· ≤ reachBytes) = true := hsz0
  have hval : ∀ (j : Nat) t v, Try.f8.params[j]? = some t → args[j]? = some v → Value.okWide Try.prog W .any base t v := hval0
  have hW' := hW
  obtain ⟨p, q, hA0, hV, rfl, hfz, hnd⟩ := hW
  have hA : DataW.TrodAll enc Try.prog W 0 (fun _ => true) true Try.f8.params.toList args.toList ds p := hA0
  rw [show Try.f8.params = #[44, 23, 3] by kernel_rfl] at hA hval hsz
  obtain ⟨v0, vs0, d0, ds0, p0, q0, hargs, rfl, rfl, h0, r0⟩ := trodAll_cons hA
  obtain ⟨v1, vs1, d1, ds1, p1, q1, rfl, rfl, rfl, h1, r1⟩ := trodAll_cons r0
  obtain ⟨v2, vs2, d2, ds2, p2, q2, rfl, rfl, rfl, h2, r2⟩ := trodAll_cons r1
  obtain ⟨rfl, rfl, rfl⟩ := trodAll_nil r2
  obtain rfl : args = #[v0, v1, v2] := by cases args; simp_all
  obtain ⟨rfl, rfl⟩ := trodVars_none hV
  obtain ⟨cs0, rfl⟩ : ∃ cs, v0 = .agg cs := by obtain ⟨fs, hfs⟩ := u0; exact okWide_cells hfs (hval 0 44 v0 rfl rfl)
  have k0 := h0
  have lt0 : ∀ x ∈ p0, x.block < W.heap.size := by obtain ⟨m, hm⟩ := k0; exact DataW.trod_lt m _ _ _ hm
  obtain ⟨x0, rd0, wf0⟩ : ∃ x : den Gn.fin, Rd W (fun b => b < W.heap.size) Gn.fin .ro x cs0.toList [] ∧ Wf Gn.fin x := by
    obtain ⟨fuel, hf⟩ := h0
    exact trod_any 9 44 Gn.fin fuel _ _ (by kernel_rfl) hf
  obtain ⟨a1, len1, cap1, rfl⟩ := okWide_slice u1 (hval 1 23 v1 rfl rfl)
  have sp1 := okWide_spot u1 (hval 1 23 _ rfl rfl)
  have k1 := h1
  have lt1 : ∀ x ∈ p1, x.block < W.heap.size := by obtain ⟨m, hm⟩ := k1; exact DataW.trod_lt m _ _ _ hm
  have y1 : len1 * 1 ≤ 140737488351232 := sized_row hsz (j := 1) (t := 23) rfl rfl u1 (by kernel_rfl) h1
  obtain ⟨l1, n1, rd1, wf1⟩ : ∃ l : List (den (.int .u8)), l.length = len1 ∧ Rd W (fun b => b < W.heap.size) (.sl (.int .u8)) .ro l [.slice a1 len1 cap1] [] ∧ Wf (.sl (.int .u8)) l := by
    obtain ⟨fuel, hf⟩ := h1
    exact trod_slice (n := 8) u1 (by kernel_rfl) (by kernel_rfl) (by kernel_rfl) (by decide) sp1 hf
  obtain ⟨a2, rfl, rfl, rfl, w2⟩ := open_int u2 (hval 2 3 v2 rfl rfl) h2
  clear hA0 hval0 hsz0 hsz
  refine (walk W cs0 x0 rd0 wf0 a1 len1 cap1 l1 n1 rd1 wf1 y1 a2 w2).mono fun e W' ⟨he, bel⟩ => ?_
  subst he
  exact ⟨_, rfl, _, _, _, [], _, [], hW', trodAll_mk1 (shut_bool (by kernel_rfl) _), (trodAll_cons_mk (Below.trod laidOut (by kernel_rfl) (of_decide_eq_true (by kernel_rfl)) k0 bel lt0) (trodAll_cons_mk (Below.trod laidOut (by kernel_rfl) (of_decide_eq_true (by kernel_rfl)) k1 bel lt1) (trodAll_cons_mk (shut_int u2 w2) trodAll_mk0))), rfl, bel.frame _, fun h => by cases h⟩
theorem over : Rows.fnExactEndWriteRow.holds Try.pinned (OpenSpec.ofChange Rows.fnExactEndWriteSpec) :=
  OpenClaim.holds_of_wide 8 Try.f8 rfl rfl rfl rfl rfl rfl rfl ⟨rfl, rfl, rfl, rfl, rfl⟩ rfl rfl rfl rfl rfl (by kernel_rfl) Try.func8 (by kernel_rfl)
    (of_decide_eq_true (by kernel_rfl)) (by unfold Func.isWrapper; first | (rw [if_pos (by decide +kernel)]; kernel_rfl) | (rw [if_neg (by decide +kernel)]; exact ⟨rfl, rfl⟩))
    (fun os started H enc _ => lifted os started H enc)
theorem proved : Rows.FnExactEndWriteSaid := over
#print axioms proved
end Go.Proofs.Ytkkgcidigiokfaa.fnExactEndWrite
namespace Go.Proofs.Ytkkgcidigiokfaa
/-- The row, under a short name, for the claim. -/
theorem fnExactEndWrite_holds : Rows.FnExactEndWriteSaid := fnExactEndWrite.proved
end Go.Proofs.Ytkkgcidigiokfaa
end
