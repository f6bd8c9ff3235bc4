/-
  No cell of these rows narrows 'for every input' (looked for: loops, veiled, ifaces, maps, wideKeys, modest, calm, conditions, laid).
  DERIVED. THE GIVEN ROWS OF THIS SEAT. 12 by the template 'for every input the law returns true; each argument reads behind the call as it read before'; 0 by the template 'total and deterministic' (their statements: YtkbaaipnjbcnlaaTotals.lean).
  GIVEN WITH THE SEED: the statements are not yours to turn. If you find one false, say at which input.
  Laid BY PROGRAM, IN A SANDBOX (cutbox-rows.mjs): the forced cells as the released guide's own fill.sh prints them over the translation 82ebb2f151729b38… (all of the seat's roots in one cut). By AI agents, Wed Nov 11 2026. No macro, syntax, notation, axiom, sorry.
-/
import Derived.Test.YtkbaaipnjbcnlaaChecked
import GoSem.Claim
import GoSem.ClaimJoined
import GoSem.ClaimMapViews
import Derived.JoinedTies
import Derived.KernelRfl
namespace Go.Proofs.Ytkbaaipnjbcnlaa
/- THE CELL 'sum', in the pinned program and in every row, IS THE sha256 OF THE DUMP (.gsa) THAT YtkbaaipnjbcnlaaProg.lean LOADS. Nothing in Lean hashes anything: it is a label: what it is worth is what the hold of that sum in a sandbox is worth. -/
noncomputable def Try.pinned : Pinned := { name := "ytkbaaipnjbcnlaa", sum := "82ebb2f151729b388f3365b81268d69cf6156ac8992ed2f94d7d9c855c02d3b9", checked := Try.checked }
namespace Rows
def none {H : Type} : Left H := { results := [], args := [] }

/-- 'laws.FnExactSharedOk': WHATEVER THE INPUT: true; the input reads as it did. -/
def fnExactSharedOkSpec : ChangeSpec := { name := "fnExactSharedOk", fn := fun _ => fun
  | [d] => { results := [.lit (.bool true)], args := [d] }
  | _ => none }
def fnExactSharedOkRow : OpenClaim := { program := "ytkbaaipnjbcnlaa", sum := "82ebb2f151729b388f3365b81268d69cf6156ac8992ed2f94d7d9c855c02d3b9", func := "loop.example/netstack/laws.FnExactSharedOk", spec := "fnExactSharedOk", unfollowed := true, recurses := true, apart := false }
def FnExactSharedOkSaid : Prop := fnExactSharedOkRow.holds Try.pinned (OpenSpec.ofChange fnExactSharedOkSpec)

/-- ITS FALSE NEIGHBOUR: 'it returns false'. Refute it at one input. -/
def fnExactSharedOkWrong : ChangeSpec := { name := "fnExactSharedOk", fn := fun _ => fun
  | [d] => { results := [.lit (.bool false)], args := [d] }
  | _ => none }
def FnExactSharedOkWrongFalsely : Prop := fnExactSharedOkRow.holds Try.pinned (OpenSpec.ofChange fnExactSharedOkWrong)

/-- 'laws.FnExactSharedFar': WHATEVER THE INPUT: true; the input reads as it did. -/
def fnExactSharedFarSpec : ChangeSpec := { name := "fnExactSharedFar", fn := fun _ => fun
  | [d] => { results := [.lit (.bool true)], args := [d] }
  | _ => none }
def fnExactSharedFarRow : OpenClaim := { program := "ytkbaaipnjbcnlaa", sum := "82ebb2f151729b388f3365b81268d69cf6156ac8992ed2f94d7d9c855c02d3b9", func := "loop.example/netstack/laws.FnExactSharedFar", spec := "fnExactSharedFar", unfollowed := true, recurses := true, apart := false }
def FnExactSharedFarSaid : Prop := fnExactSharedFarRow.holds Try.pinned (OpenSpec.ofChange fnExactSharedFarSpec)

/-- ITS FALSE NEIGHBOUR: 'it returns false'. Refute it at one input. -/
def fnExactSharedFarWrong : ChangeSpec := { name := "fnExactSharedFar", fn := fun _ => fun
  | [d] => { results := [.lit (.bool false)], args := [d] }
  | _ => none }
def FnExactSharedFarWrongFalsely : Prop := fnExactSharedFarRow.holds Try.pinned (OpenSpec.ofChange fnExactSharedFarWrong)

/-- 'laws.FnExactSharedAll': WHATEVER THE INPUT: true; the input reads as it did. -/
def fnExactSharedAllSpec : ChangeSpec := { name := "fnExactSharedAll", fn := fun _ => fun
  | [d] => { results := [.lit (.bool true)], args := [d] }
  | _ => none }
def fnExactSharedAllRow : OpenClaim := { program := "ytkbaaipnjbcnlaa", sum := "82ebb2f151729b388f3365b81268d69cf6156ac8992ed2f94d7d9c855c02d3b9", func := "loop.example/netstack/laws.FnExactSharedAll", spec := "fnExactSharedAll", unfollowed := true, recurses := true, apart := false }
def FnExactSharedAllSaid : Prop := fnExactSharedAllRow.holds Try.pinned (OpenSpec.ofChange fnExactSharedAllSpec)

/-- ITS FALSE NEIGHBOUR: 'it returns false'. Refute it at one input. -/
def fnExactSharedAllWrong : ChangeSpec := { name := "fnExactSharedAll", fn := fun _ => fun
  | [d] => { results := [.lit (.bool false)], args := [d] }
  | _ => none }
def FnExactSharedAllWrongFalsely : Prop := fnExactSharedAllRow.holds Try.pinned (OpenSpec.ofChange fnExactSharedAllWrong)

/-- 'laws.FnSharedOk': WHATEVER THE INPUT: true; the input reads as it did. -/
def fnSharedOkSpec : ChangeSpec := { name := "fnSharedOk", fn := fun _ => fun
  | [d] => { results := [.lit (.bool true)], args := [d] }
  | _ => none }
def fnSharedOkRow : OpenClaim := { program := "ytkbaaipnjbcnlaa", sum := "82ebb2f151729b388f3365b81268d69cf6156ac8992ed2f94d7d9c855c02d3b9", func := "loop.example/netstack/laws.FnSharedOk", spec := "fnSharedOk", unfollowed := true, recurses := true, apart := false }
def FnSharedOkSaid : Prop := fnSharedOkRow.holds Try.pinned (OpenSpec.ofChange fnSharedOkSpec)

/-- ITS FALSE NEIGHBOUR: 'it returns false'. Refute it at one input. -/
def fnSharedOkWrong : ChangeSpec := { name := "fnSharedOk", fn := fun _ => fun
  | [d] => { results := [.lit (.bool false)], args := [d] }
  | _ => none }
def FnSharedOkWrongFalsely : Prop := fnSharedOkRow.holds Try.pinned (OpenSpec.ofChange fnSharedOkWrong)

/-- 'laws.FnSharedFar': WHATEVER THE INPUT: true; the input reads as it did. -/
def fnSharedFarSpec : ChangeSpec := { name := "fnSharedFar", fn := fun _ => fun
  | [d] => { results := [.lit (.bool true)], args := [d] }
  | _ => none }
def fnSharedFarRow : OpenClaim := { program := "ytkbaaipnjbcnlaa", sum := "82ebb2f151729b388f3365b81268d69cf6156ac8992ed2f94d7d9c855c02d3b9", func := "loop.example/netstack/laws.FnSharedFar", spec := "fnSharedFar", unfollowed := true, recurses := true, apart := false }
def FnSharedFarSaid : Prop := fnSharedFarRow.holds Try.pinned (OpenSpec.ofChange fnSharedFarSpec)

/-- ITS FALSE NEIGHBOUR: 'it returns false'. Refute it at one input. -/
def fnSharedFarWrong : ChangeSpec := { name := "fnSharedFar", fn := fun _ => fun
  | [d] => { results := [.lit (.bool false)], args := [d] }
  | _ => none }
def FnSharedFarWrongFalsely : Prop := fnSharedFarRow.holds Try.pinned (OpenSpec.ofChange fnSharedFarWrong)

/-- 'laws.FnSharedAll': WHATEVER THE INPUT: true; the input reads as it did. -/
def fnSharedAllSpec : ChangeSpec := { name := "fnSharedAll", fn := fun _ => fun
  | [d] => { results := [.lit (.bool true)], args := [d] }
  | _ => none }
def fnSharedAllRow : OpenClaim := { program := "ytkbaaipnjbcnlaa", sum := "82ebb2f151729b388f3365b81268d69cf6156ac8992ed2f94d7d9c855c02d3b9", func := "loop.example/netstack/laws.FnSharedAll", spec := "fnSharedAll", unfollowed := true, recurses := true, apart := false }
def FnSharedAllSaid : Prop := fnSharedAllRow.holds Try.pinned (OpenSpec.ofChange fnSharedAllSpec)

/-- ITS FALSE NEIGHBOUR: 'it returns false'. Refute it at one input. -/
def fnSharedAllWrong : ChangeSpec := { name := "fnSharedAll", fn := fun _ => fun
  | [d] => { results := [.lit (.bool false)], args := [d] }
  | _ => none }
def FnSharedAllWrongFalsely : Prop := fnSharedAllRow.holds Try.pinned (OpenSpec.ofChange fnSharedAllWrong)

/-- 'laws.FnSlow': WHATEVER THE INPUT: true; the input reads as it did. -/
def fnSlowSpec : ChangeSpec := { name := "fnSlow", fn := fun _ => fun
  | [d] => { results := [.lit (.bool true)], args := [d] }
  | _ => none }
def fnSlowRow : OpenClaim := { program := "ytkbaaipnjbcnlaa", sum := "82ebb2f151729b388f3365b81268d69cf6156ac8992ed2f94d7d9c855c02d3b9", func := "loop.example/netstack/laws.FnSlow", spec := "fnSlow", unfollowed := true, recurses := true, apart := false }
def FnSlowSaid : Prop := fnSlowRow.holds Try.pinned (OpenSpec.ofChange fnSlowSpec)

/-- ITS FALSE NEIGHBOUR: 'it returns false'. Refute it at one input. -/
def fnSlowWrong : ChangeSpec := { name := "fnSlow", fn := fun _ => fun
  | [d] => { results := [.lit (.bool false)], args := [d] }
  | _ => none }
def FnSlowWrongFalsely : Prop := fnSlowRow.holds Try.pinned (OpenSpec.ofChange fnSlowWrong)

/-- 'laws.FnExactSharedStep': WHATEVER THE INPUT: true; the input reads as it did. -/
def fnExactSharedStepSpec : ChangeSpec := { name := "fnExactSharedStep", fn := fun _ => fun
  | [d1, d2] => { results := [.lit (.bool true)], args := [d1, d2] }
  | _ => none }
def fnExactSharedStepRow : OpenClaim := { program := "ytkbaaipnjbcnlaa", sum := "82ebb2f151729b388f3365b81268d69cf6156ac8992ed2f94d7d9c855c02d3b9", func := "loop.example/netstack/laws.FnExactSharedStep", spec := "fnExactSharedStep", unfollowed := true, recurses := true, apart := false }
def FnExactSharedStepSaid : Prop := fnExactSharedStepRow.holds Try.pinned (OpenSpec.ofChange fnExactSharedStepSpec)

/-- ITS FALSE NEIGHBOUR: 'it returns false'. Refute it at one input. -/
def fnExactSharedStepWrong : ChangeSpec := { name := "fnExactSharedStep", fn := fun _ => fun
  | [d1, d2] => { results := [.lit (.bool false)], args := [d1, d2] }
  | _ => none }
def FnExactSharedStepWrongFalsely : Prop := fnExactSharedStepRow.holds Try.pinned (OpenSpec.ofChange fnExactSharedStepWrong)

/-- 'laws.FnSharedStep': WHATEVER THE INPUT: true; the input reads as it did. -/
def fnSharedStepSpec : ChangeSpec := { name := "fnSharedStep", fn := fun _ => fun
  | [d] => { results := [.lit (.bool true)], args := [d] }
  | _ => none }
def fnSharedStepRow : OpenClaim := { program := "ytkbaaipnjbcnlaa", sum := "82ebb2f151729b388f3365b81268d69cf6156ac8992ed2f94d7d9c855c02d3b9", func := "loop.example/netstack/laws.FnSharedStep", spec := "fnSharedStep", unfollowed := true, recurses := true, apart := false }
def FnSharedStepSaid : Prop := fnSharedStepRow.holds Try.pinned (OpenSpec.ofChange fnSharedStepSpec)

/-- ITS FALSE NEIGHBOUR: 'it returns false'. Refute it at one input. -/
def fnSharedStepWrong : ChangeSpec := { name := "fnSharedStep", fn := fun _ => fun
  | [d] => { results := [.lit (.bool false)], args := [d] }
  | _ => none }
def FnSharedStepWrongFalsely : Prop := fnSharedStepRow.holds Try.pinned (OpenSpec.ofChange fnSharedStepWrong)

/-- 'laws.FnExactSharedRun': WHATEVER THE INPUT: true; the input reads as it did. -/
def fnExactSharedRunSpec : ChangeSpec := { name := "fnExactSharedRun", fn := fun _ => fun
  | [d1, d2, d3] => { results := [.lit (.bool true)], args := [d1, d2, d3] }
  | _ => none }
def fnExactSharedRunRow : OpenClaim := { program := "ytkbaaipnjbcnlaa", sum := "82ebb2f151729b388f3365b81268d69cf6156ac8992ed2f94d7d9c855c02d3b9", func := "loop.example/netstack/laws.FnExactSharedRun", spec := "fnExactSharedRun", unfollowed := true, recurses := true, apart := false }
def FnExactSharedRunSaid : Prop := fnExactSharedRunRow.holds Try.pinned (OpenSpec.ofChange fnExactSharedRunSpec)

/-- ITS FALSE NEIGHBOUR: 'it returns false'. Refute it at one input. -/
def fnExactSharedRunWrong : ChangeSpec := { name := "fnExactSharedRun", fn := fun _ => fun
  | [d1, d2, d3] => { results := [.lit (.bool false)], args := [d1, d2, d3] }
  | _ => none }
def FnExactSharedRunWrongFalsely : Prop := fnExactSharedRunRow.holds Try.pinned (OpenSpec.ofChange fnExactSharedRunWrong)

/-- 'laws.FnSharedRun': WHATEVER THE INPUT: true; the input reads as it did. -/
def fnSharedRunSpec : ChangeSpec := { name := "fnSharedRun", fn := fun _ => fun
  | [d] => { results := [.lit (.bool true)], args := [d] }
  | _ => none }
def fnSharedRunRow : OpenClaim := { program := "ytkbaaipnjbcnlaa", sum := "82ebb2f151729b388f3365b81268d69cf6156ac8992ed2f94d7d9c855c02d3b9", func := "loop.example/netstack/laws.FnSharedRun", spec := "fnSharedRun", unfollowed := true, recurses := true, apart := false }
def FnSharedRunSaid : Prop := fnSharedRunRow.holds Try.pinned (OpenSpec.ofChange fnSharedRunSpec)

/-- ITS FALSE NEIGHBOUR: 'it returns false'. Refute it at one input. -/
def fnSharedRunWrong : ChangeSpec := { name := "fnSharedRun", fn := fun _ => fun
  | [d] => { results := [.lit (.bool false)], args := [d] }
  | _ => none }
def FnSharedRunWrongFalsely : Prop := fnSharedRunRow.holds Try.pinned (OpenSpec.ofChange fnSharedRunWrong)

/-- 'laws.FnSegmentCut': WHATEVER THE INPUT: true; the input reads as it did. -/
def fnSegmentCutSpec : ChangeSpec := { name := "fnSegmentCut", fn := fun _ => fun
  | [d] => { results := [.lit (.bool true)], args := [d] }
  | _ => none }
def fnSegmentCutRow : OpenClaim := { program := "ytkbaaipnjbcnlaa", sum := "82ebb2f151729b388f3365b81268d69cf6156ac8992ed2f94d7d9c855c02d3b9", func := "loop.example/netstack/laws.FnSegmentCut", spec := "fnSegmentCut", unfollowed := true, recurses := true, apart := false }
def FnSegmentCutSaid : Prop := fnSegmentCutRow.holds Try.pinned (OpenSpec.ofChange fnSegmentCutSpec)

/-- ITS FALSE NEIGHBOUR: 'it returns false'. Refute it at one input. -/
def fnSegmentCutWrong : ChangeSpec := { name := "fnSegmentCut", fn := fun _ => fun
  | [d] => { results := [.lit (.bool false)], args := [d] }
  | _ => none }
def FnSegmentCutWrongFalsely : Prop := fnSegmentCutRow.holds Try.pinned (OpenSpec.ofChange fnSegmentCutWrong)

/- THE SECOND FORM. 'bulk': how many values and letters a reading holds, each counted each time it is reached (what is shared counts as often as it is met; a slice's spare places count too). A statement '..UptoSaid' is the law's where the arguments, and the package variables that the reading takes, are together of bulk at most 1048576: NARROWER than '..Said'. Prove '..Said' where nothing that the law and all that it calls make is longer than what came in: it says more and counts as full. Else prove '..UptoSaid'. A law counts once. -/
mutual
def uptoBulk {H : Type} : DataW H → Nat
  | .lit (.string bytes) => bytes.length + 1
  | .lit _ => 1
  | .nil => 1
  | .ptr d => uptoBulk d + 1
  | .slice elems spare => uptoBulkAll elems + uptoBulkAll spare + 1
  | .agg parts => uptoBulkAll parts + 1
  | .iface _ d => uptoBulk d + 1
  | .map entries => uptoBulkEntries entries + 1
  | .held _ => 1
def uptoBulkAll {H : Type} : List (DataW H) → Nat
  | [] => 0
  | d :: r => uptoBulk d + uptoBulkAll r
def uptoBulkEntries {H : Type} : List (Lit × DataW H) → Nat
  | [] => 0
  | x :: r => uptoBulkEntry x + uptoBulkEntries r
def uptoBulkEntry {H : Type} : Lit × DataW H → Nat
  | (.string bytes, d) => bytes.length + uptoBulk d + 1
  | (_, d) => uptoBulk d + 1
 end
def uptoSmall : (H : Type) → List (DataW H) → Bool := fun _ ds => decide (uptoBulkAll ds ≤ 1048576)
def OpenSpec.upto (s : _root_.Go.ChangeSpec) : _root_.Go.OpenSpec := { _root_.Go.OpenSpec.ofChange s with cond := some uptoSmall }

/-- 'laws.FnExactSharedOk', WHERE WHAT IT READS IS OF BULK AT MOST 1048576: true; the input reads as it did. -/
def fnExactSharedOkUptoRow : OpenClaim := { program := "ytkbaaipnjbcnlaa", sum := "82ebb2f151729b388f3365b81268d69cf6156ac8992ed2f94d7d9c855c02d3b9", func := "loop.example/netstack/laws.FnExactSharedOk", spec := "fnExactSharedOk", unfollowed := true, recurses := true, apart := false, narrowed := true }
def FnExactSharedOkUptoSaid : Prop := fnExactSharedOkUptoRow.holds Try.pinned (OpenSpec.upto fnExactSharedOkSpec)

/-- 'laws.FnExactSharedFar', WHERE WHAT IT READS IS OF BULK AT MOST 1048576: true; the input reads as it did. -/
def fnExactSharedFarUptoRow : OpenClaim := { program := "ytkbaaipnjbcnlaa", sum := "82ebb2f151729b388f3365b81268d69cf6156ac8992ed2f94d7d9c855c02d3b9", func := "loop.example/netstack/laws.FnExactSharedFar", spec := "fnExactSharedFar", unfollowed := true, recurses := true, apart := false, narrowed := true }
def FnExactSharedFarUptoSaid : Prop := fnExactSharedFarUptoRow.holds Try.pinned (OpenSpec.upto fnExactSharedFarSpec)

/-- 'laws.FnExactSharedAll', WHERE WHAT IT READS IS OF BULK AT MOST 1048576: true; the input reads as it did. -/
def fnExactSharedAllUptoRow : OpenClaim := { program := "ytkbaaipnjbcnlaa", sum := "82ebb2f151729b388f3365b81268d69cf6156ac8992ed2f94d7d9c855c02d3b9", func := "loop.example/netstack/laws.FnExactSharedAll", spec := "fnExactSharedAll", unfollowed := true, recurses := true, apart := false, narrowed := true }
def FnExactSharedAllUptoSaid : Prop := fnExactSharedAllUptoRow.holds Try.pinned (OpenSpec.upto fnExactSharedAllSpec)

/-- 'laws.FnSharedOk', WHERE WHAT IT READS IS OF BULK AT MOST 1048576: true; the input reads as it did. -/
def fnSharedOkUptoRow : OpenClaim := { program := "ytkbaaipnjbcnlaa", sum := "82ebb2f151729b388f3365b81268d69cf6156ac8992ed2f94d7d9c855c02d3b9", func := "loop.example/netstack/laws.FnSharedOk", spec := "fnSharedOk", unfollowed := true, recurses := true, apart := false, narrowed := true }
def FnSharedOkUptoSaid : Prop := fnSharedOkUptoRow.holds Try.pinned (OpenSpec.upto fnSharedOkSpec)

/-- 'laws.FnSharedFar', WHERE WHAT IT READS IS OF BULK AT MOST 1048576: true; the input reads as it did. -/
def fnSharedFarUptoRow : OpenClaim := { program := "ytkbaaipnjbcnlaa", sum := "82ebb2f151729b388f3365b81268d69cf6156ac8992ed2f94d7d9c855c02d3b9", func := "loop.example/netstack/laws.FnSharedFar", spec := "fnSharedFar", unfollowed := true, recurses := true, apart := false, narrowed := true }
def FnSharedFarUptoSaid : Prop := fnSharedFarUptoRow.holds Try.pinned (OpenSpec.upto fnSharedFarSpec)

/-- 'laws.FnSharedAll', WHERE WHAT IT READS IS OF BULK AT MOST 1048576: true; the input reads as it did. -/
def fnSharedAllUptoRow : OpenClaim := { program := "ytkbaaipnjbcnlaa", sum := "82ebb2f151729b388f3365b81268d69cf6156ac8992ed2f94d7d9c855c02d3b9", func := "loop.example/netstack/laws.FnSharedAll", spec := "fnSharedAll", unfollowed := true, recurses := true, apart := false, narrowed := true }
def FnSharedAllUptoSaid : Prop := fnSharedAllUptoRow.holds Try.pinned (OpenSpec.upto fnSharedAllSpec)

/-- 'laws.FnSlow', WHERE WHAT IT READS IS OF BULK AT MOST 1048576: true; the input reads as it did. -/
def fnSlowUptoRow : OpenClaim := { program := "ytkbaaipnjbcnlaa", sum := "82ebb2f151729b388f3365b81268d69cf6156ac8992ed2f94d7d9c855c02d3b9", func := "loop.example/netstack/laws.FnSlow", spec := "fnSlow", unfollowed := true, recurses := true, apart := false, narrowed := true }
def FnSlowUptoSaid : Prop := fnSlowUptoRow.holds Try.pinned (OpenSpec.upto fnSlowSpec)

/-- 'laws.FnExactSharedStep', WHERE WHAT IT READS IS OF BULK AT MOST 1048576: true; the input reads as it did. -/
def fnExactSharedStepUptoRow : OpenClaim := { program := "ytkbaaipnjbcnlaa", sum := "82ebb2f151729b388f3365b81268d69cf6156ac8992ed2f94d7d9c855c02d3b9", func := "loop.example/netstack/laws.FnExactSharedStep", spec := "fnExactSharedStep", unfollowed := true, recurses := true, apart := false, narrowed := true }
def FnExactSharedStepUptoSaid : Prop := fnExactSharedStepUptoRow.holds Try.pinned (OpenSpec.upto fnExactSharedStepSpec)

/-- 'laws.FnSharedStep', WHERE WHAT IT READS IS OF BULK AT MOST 1048576: true; the input reads as it did. -/
def fnSharedStepUptoRow : OpenClaim := { program := "ytkbaaipnjbcnlaa", sum := "82ebb2f151729b388f3365b81268d69cf6156ac8992ed2f94d7d9c855c02d3b9", func := "loop.example/netstack/laws.FnSharedStep", spec := "fnSharedStep", unfollowed := true, recurses := true, apart := false, narrowed := true }
def FnSharedStepUptoSaid : Prop := fnSharedStepUptoRow.holds Try.pinned (OpenSpec.upto fnSharedStepSpec)

/-- 'laws.FnExactSharedRun', WHERE WHAT IT READS IS OF BULK AT MOST 1048576: true; the input reads as it did. -/
def fnExactSharedRunUptoRow : OpenClaim := { program := "ytkbaaipnjbcnlaa", sum := "82ebb2f151729b388f3365b81268d69cf6156ac8992ed2f94d7d9c855c02d3b9", func := "loop.example/netstack/laws.FnExactSharedRun", spec := "fnExactSharedRun", unfollowed := true, recurses := true, apart := false, narrowed := true }
def FnExactSharedRunUptoSaid : Prop := fnExactSharedRunUptoRow.holds Try.pinned (OpenSpec.upto fnExactSharedRunSpec)

/-- 'laws.FnSharedRun', WHERE WHAT IT READS IS OF BULK AT MOST 1048576: true; the input reads as it did. -/
def fnSharedRunUptoRow : OpenClaim := { program := "ytkbaaipnjbcnlaa", sum := "82ebb2f151729b388f3365b81268d69cf6156ac8992ed2f94d7d9c855c02d3b9", func := "loop.example/netstack/laws.FnSharedRun", spec := "fnSharedRun", unfollowed := true, recurses := true, apart := false, narrowed := true }
def FnSharedRunUptoSaid : Prop := fnSharedRunUptoRow.holds Try.pinned (OpenSpec.upto fnSharedRunSpec)

/-- 'laws.FnSegmentCut', WHERE WHAT IT READS IS OF BULK AT MOST 1048576: true; the input reads as it did. -/
def fnSegmentCutUptoRow : OpenClaim := { program := "ytkbaaipnjbcnlaa", sum := "82ebb2f151729b388f3365b81268d69cf6156ac8992ed2f94d7d9c855c02d3b9", func := "loop.example/netstack/laws.FnSegmentCut", spec := "fnSegmentCut", unfollowed := true, recurses := true, apart := false, narrowed := true }
def FnSegmentCutUptoSaid : Prop := fnSegmentCutUptoRow.holds Try.pinned (OpenSpec.upto fnSegmentCutSpec)

end Rows
end Go.Proofs.Ytkbaaipnjbcnlaa
