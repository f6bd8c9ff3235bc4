/-
  The law FnExactMailCarried holds of the given program: its MailCarried returns what the reference's returns, for all arguments.
-/
import Derived.Test.YtdmepjjepogddaaGreatRows
import Derived.WalkKit
import Derived.ProofKit
import Derived.OpenShut
import Derived.ShutString
import Derived.ChangeOld
import Derived.Below
import Derived.Carry
import Derived.SizedLaws
import Derived.Test.YtdmepjjepogddaaGreatA6
section
namespace Go.Proofs.YtdmepjjepogddaaGreat.fnExactMailCarried
open Go.ChangeShapes Go.WideShapes Go.ChangeAt Go.RowKit Go.Rf
open Go.ChangeMaps (open_string shut_string)
set_option linter.unusedVariables false
theorem own : ownKnob Tryz.prog.godebug = none := by kernel_rfl
theorem Xm : laidOutB Tryz.prog = true := by kernel_rfl
theorem u0 : Tryz.prog.underlying 57 = some (.slice 135) := by kernel_rfl
theorem u1 : Tryz.prog.underlying 22 = some (.slice 94) := by kernel_rfl
theorem u2 : Tryz.prog.underlying 3 = some (.int .i64) := by kernel_rfl
theorem u3 : Tryz.prog.underlying 3 = some (.int .i64) := by kernel_rfl
theorem u4 : ∃ fs, Tryz.prog.underlying 58 = some (.struct fs) := Yj3 (by kernel_rfl)
theorem walk (w : World) (a0 : Option Addr) (len0 cap0 : Nat) (l0 : List (den Gn.A2)) (hr0 : Rd w (fun b => b < w.heap.size) (.sl Gn.A2) .ro l0 [.slice a0 len0 cap0] []) (hw0 : Wf (.sl Gn.A2) l0) (a1 : Option Addr) (len1 cap1 : Nat) (l1 : List (den Gn.sta)) (hr1 : Rd w (fun b => b < w.heap.size) (.sl Gn.sta) .ro l1 [.slice a1 len1 cap1] []) (hw1 : Wf (.sl Gn.sta) l1) (a2 : Int) (w2 : (Lit.int .i64 a2).wf = true) (a3 : Int) (w3 : (Lit.int .i64 a3).wf = true) (cs4 : Array Value) (x4 : den Gn.A5) (hr4 : Rd w (fun b => b < w.heap.size) Gn.A5 .ro x4 cs4.toList []) (hw4 : Wf Gn.A5 x4) :
  Calls Tryz.prog 6 #[.slice a0 len0 cap0, .slice a1 len1 cap1, .int .i64 a2, .int .i64 a3, .agg cs4] w fun e w' => e = .returned (.bool true) ∧ Below w.heap.size w w' := by
 obtain ⟨k, h⟩ := Gn.Yaw l0 hw0 l1 hw1 a2 w2 a3 w3 x4 hw4
 exact Xol (bss := [[], [], [], [], []]) (h.1 l0 l1 a2 a3 x4) ⟨hr0, hr1, (show _ ∧ _ from ⟨rfl, rfl⟩), (show _ ∧ _ from ⟨rfl, rfl⟩), X85 hr4, trivial⟩ rfl (by simp only [Nl, Xzr, List.append_nil] <;> rfl) (r := true) h.2 rfl
set_option maxRecDepth 100000 in
theorem lifted (os : Os) (started : os.Started) (H : Type) (enc : TypeId × Value → H) :
  ReturnsInHanded {} Tryz.checked os 6 .any (Rows.fnExactMailCarriedSpec.pre6 enc Tryz.prog Tryz.f6 Rows.fnExactMailCarriedRow.domain false) (Rows.fnExactMailCarriedSpec.post enc Tryz.prog Tryz.f6 false true false false) := by
 refine returnsInHanded_of_change_sized (C := Tryz.checked) own started (by kernel_rfl) Tryz.func6
  (ChangeSpec.witness6 (enc := enc) (C := Tryz.checked) false ⟨#[], #[.slice none 0 0, .slice none 0 0, .int .i64 0, .int .i64 0, .agg (Rf.zv Gn.A5).toArray], []⟩ 8 (by kernel_rfl) (by kernel_rfl) (by kernel_rfl) (by kernel_rfl)) ?_
 intro W base args ds gs before hval0 hW hcnd hsz0 _
 have hsz : (DataW.weightsEach Tryz.prog (Tryz.f6.params.toList ++ Rows.fnExactMailCarriedSpec.plain.varTypes Tryz.prog) (ds ++ gs)).all (· ≤ reachBytes) = true := hsz0
 have hval : ∀ (j : Nat) t v, Tryz.f6.params[j]? = some t → args[j]? = some v → Value.okWide Tryz.prog W .any base t v := hval0
 have hW' := hW
 obtain ⟨p, q, hA0, hV, rfl, hfz, hnd⟩ := hW
 have hA : DataW.TrodAll enc Tryz.prog W 0 (fun _ => true) true Tryz.f6.params.toList args.toList ds p := hA0
 rw [show Tryz.f6.params = #[57, 22, 3, 3, 58] by kernel_rfl] at hA hval hsz
 obtain ⟨v0, vs0, d0, ds0, p0, q0, hargs, rfl, rfl, h0, r0⟩ := trodAll_cons hA
 obtain ⟨v1, vs1, d1, ds1, p1, q1, rfl, rfl, rfl, h1, r1⟩ := trodAll_cons r0
 obtain ⟨v2, vs2, d2, ds2, p2, q2, rfl, rfl, rfl, h2, r2⟩ := trodAll_cons r1
 obtain ⟨v3, vs3, d3, ds3, p3, q3, rfl, rfl, rfl, h3, r3⟩ := trodAll_cons r2
 obtain ⟨v4, vs4, d4, ds4, p4, q4, rfl, rfl, rfl, h4, r4⟩ := trodAll_cons r3
 obtain ⟨rfl, rfl, rfl⟩ := trodAll_nil r4
 obtain rfl : args = #[v0, v1, v2, v3, v4] := by cases args; simp_all
 obtain ⟨rfl, rfl⟩ := trodVars_none hV
 obtain ⟨a0, len0, cap0, rfl⟩ := okWide_slice u0 (hval 0 57 v0 rfl rfl)
 have k0 := h0
 have lt0 : ∀ x ∈ p0, x.block < W.heap.size := by obtain ⟨m, hm⟩ := k0; exact DataW.trod_lt m _ _ _ hm
 obtain ⟨l0, rd0, wf0⟩ : ∃ l : List (den Gn.A2), Rd W (fun b => b < W.heap.size) (.sl Gn.A2) .ro l [.slice a0 len0 cap0] [] ∧ Wf (.sl Gn.A2) l := by
  obtain ⟨fuel, hf⟩ := h0
  exact J6 9 57 (.sl Gn.A2) fuel _ _ (by kernel_rfl) hf
 obtain ⟨a1, len1, cap1, rfl⟩ := okWide_slice u1 (hval 1 22 v1 rfl rfl)
 have k1 := h1
 have lt1 : ∀ x ∈ p1, x.block < W.heap.size := by obtain ⟨m, hm⟩ := k1; exact DataW.trod_lt m _ _ _ hm
 obtain ⟨l1, rd1, wf1⟩ : ∃ l : List (den Gn.sta), Rd W (fun b => b < W.heap.size) (.sl Gn.sta) .ro l [.slice a1 len1 cap1] [] ∧ Wf (.sl Gn.sta) l := by
  obtain ⟨fuel, hf⟩ := h1
  exact J6 9 22 (.sl Gn.sta) fuel _ _ (by kernel_rfl) hf
 obtain ⟨a2, rfl, rfl, rfl, w2⟩ := open_int u2 (hval 2 3 v2 rfl rfl) h2
 obtain ⟨a3, rfl, rfl, rfl, w3⟩ := open_int u3 (hval 3 3 v3 rfl rfl) h3
 obtain ⟨cs4, rfl⟩ : ∃ cs, v4 = .agg cs := by obtain ⟨fs, hfs⟩ := u4; exact Yw hfs (hval 4 58 v4 rfl rfl)
 have k4 := h4
 have lt4 : ∀ x ∈ p4, x.block < W.heap.size := by obtain ⟨m, hm⟩ := k4; exact DataW.trod_lt m _ _ _ hm
 obtain ⟨x4, rd4, wf4⟩ : ∃ x : den Gn.A5, Rd W (fun b => b < W.heap.size) Gn.A5 .ro x cs4.toList [] ∧ Wf Gn.A5 x := by
  obtain ⟨fuel, hf⟩ := h4
  exact J6 9 58 Gn.A5 fuel _ _ (by kernel_rfl) hf
 clear hA0 hval0 hsz0 hsz
 refine (walk W a0 len0 cap0 l0 rd0 wf0 a1 len1 cap1 l1 rd1 wf1 a2 w2 a3 w3 cs4 x4 rd4 wf4).mono fun e W' ⟨he, bel⟩ => ?_
 subst he
 exact ⟨_, rfl, _, _, _, [], _, [], hW', trodAll_mk1 (shut_bool (by kernel_rfl) _), (trodAll_cons_mk (Below.trod Xm (by kernel_rfl) (of_decide_eq_true (by kernel_rfl)) k0 bel lt0) (trodAll_cons_mk (Below.trod Xm (by kernel_rfl) (of_decide_eq_true (by kernel_rfl)) k1 bel lt1) (trodAll_cons_mk (shut_int u2 w2) (trodAll_cons_mk (shut_int u3 w3) (trodAll_cons_mk (Below.trod Xm (by kernel_rfl) (of_decide_eq_true (by kernel_rfl)) k4 bel lt4) trodAll_mk0))))), rfl, bel.frame _, fun h => by cases h⟩
set_option maxRecDepth 100000 in
theorem Yeh : joinedFacts jP 6 jn js jc = true := by
 have h := B2 (B2 (B2 (B2 (B2 (B2 (B2 (B2 (B2 (B2 (B2 (B2 (B2 (B2 (B2 (B2 (B2 (B2 (B2 (B2 (B2 (B2 (B2 (B2 (B2 (B2 (B2 (B2 (B2 (B2 (B2 (j0) j1) j2) j3) j4) j5) j6) j7) j8) j9) j10) j11) j12) j13) j14) j15) j16) j17) j18) j19) j20) j21) j22) j23) j24) j25) j26) j27) j28) j29) j30) j31
 unfold joinedFacts
 exact h
theorem over : Rows.fnExactMailCarriedRow.holds Tryz.pinned (OpenSpec.ofChange Rows.fnExactMailCarriedSpec) :=
 OpenClaim.holds_of_wide 6 Tryz.f6 rfl rfl rfl rfl rfl rfl rfl ⟨rfl, rfl, rfl, rfl, rfl⟩ rfl rfl rfl rfl rfl (by kernel_rfl) Tryz.func6 Yeh
  (of_decide_eq_true (by kernel_rfl)) (by unfold Func.isWrapper; first | (rw [if_pos (by decide +kernel)]; kernel_rfl) | (rw [if_neg (by decide +kernel)]; exact ⟨rfl, rfl⟩))
  (fun os started H enc _ => lifted os started H enc)
theorem proved : Rows.FnExactMailCarriedSaid := over
#print axioms proved
end Go.Proofs.YtdmepjjepogddaaGreat.fnExactMailCarried
namespace Go.Proofs.YtdmepjjepogddaaGreat
theorem fnExactMailCarried_holds : Rows.FnExactMailCarriedSaid := fnExactMailCarried.proved
end Go.Proofs.YtdmepjjepogddaaGreat
end
