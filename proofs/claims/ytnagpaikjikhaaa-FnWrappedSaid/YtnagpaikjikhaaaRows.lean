/-
  No cell of these rows narrows 'for every input' (looked for: loops, veiled, ifaces, maps, wideKeys, modest, calm, conditions, laid).
  DERIVED. THE GIVEN ROWS OF THIS SEAT. 7 by the template 'for every input the law returns true; each argument reads behind the call as it read before'; 0 by the template 'total and deterministic' (their statements: YtnagpaikjikhaaaTotals.lean).
  GIVEN WITH THE SEED: the statements are not yours to turn. If you find one false, say at which input.
  Laid BY PROGRAM, IN A SANDBOX (cutbox-rows.mjs): the forced cells as the released guide's own fill.sh prints them over the translation 224a20a019c0d807… (all of the seat's roots in one cut). By AI agents, Wed Nov 11 2026. No macro, syntax, notation, axiom, sorry.
-/
import Derived.Test.YtnagpaikjikhaaaChecked
import GoSem.Claim
import GoSem.ClaimJoined
import GoSem.ClaimMapViews
import Derived.JoinedTies
import Derived.KernelRfl
namespace Go.Proofs.Ytnagpaikjikhaaa
/- THE CELL 'sum', in the pinned program and in every row, IS THE sha256 OF THE DUMP (.gsa) THAT YtnagpaikjikhaaaProg.lean LOADS. Nothing in Lean hashes anything: it is a label: what it is worth is what the hold of that sum in a sandbox is worth. -/
noncomputable def Try.pinned : Pinned := { name := "ytnagpaikjikhaaa", sum := "224a20a019c0d80757d77f46aa7b3ca73fbf4c5d693e1b3c004eef1d5d48ed85", checked := Try.checked }
namespace Rows
def none {H : Type} : Left H := { results := [], args := [] }

/-- 'laws.FnSegmentCut': WHATEVER THE INPUT: true; the input reads as it did. -/
def fnSegmentCutSpec : ChangeSpec := { name := "fnSegmentCut", fn := fun _ => fun
  | [d] => { results := [.lit (.bool true)], args := [d] }
  | _ => none }
def fnSegmentCutRow : OpenClaim := { program := "ytnagpaikjikhaaa", sum := "224a20a019c0d80757d77f46aa7b3ca73fbf4c5d693e1b3c004eef1d5d48ed85", func := "loop.example/netstack/laws.FnSegmentCut", spec := "fnSegmentCut", unfollowed := true, recurses := true, apart := false }
def FnSegmentCutSaid : Prop := fnSegmentCutRow.holds Try.pinned (OpenSpec.ofChange fnSegmentCutSpec)

/-- ITS FALSE NEIGHBOUR: 'it returns false'. Refute it at one input. -/
def fnSegmentCutWrong : ChangeSpec := { name := "fnSegmentCut", fn := fun _ => fun
  | [d] => { results := [.lit (.bool false)], args := [d] }
  | _ => none }
def FnSegmentCutWrongFalsely : Prop := fnSegmentCutRow.holds Try.pinned (OpenSpec.ofChange fnSegmentCutWrong)

/-- 'laws.FnSegmentJoin': WHATEVER THE INPUT: true; the input reads as it did. -/
def fnSegmentJoinSpec : ChangeSpec := { name := "fnSegmentJoin", fn := fun _ => fun
  | [d] => { results := [.lit (.bool true)], args := [d] }
  | _ => none }
def fnSegmentJoinRow : OpenClaim := { program := "ytnagpaikjikhaaa", sum := "224a20a019c0d80757d77f46aa7b3ca73fbf4c5d693e1b3c004eef1d5d48ed85", func := "loop.example/netstack/laws.FnSegmentJoin", spec := "fnSegmentJoin", unfollowed := true, recurses := true, apart := false }
def FnSegmentJoinSaid : Prop := fnSegmentJoinRow.holds Try.pinned (OpenSpec.ofChange fnSegmentJoinSpec)

/-- ITS FALSE NEIGHBOUR: 'it returns false'. Refute it at one input. -/
def fnSegmentJoinWrong : ChangeSpec := { name := "fnSegmentJoin", fn := fun _ => fun
  | [d] => { results := [.lit (.bool false)], args := [d] }
  | _ => none }
def FnSegmentJoinWrongFalsely : Prop := fnSegmentJoinRow.holds Try.pinned (OpenSpec.ofChange fnSegmentJoinWrong)

/-- 'laws.FnExactSegmentCut': WHATEVER THE INPUT: true; the input reads as it did. -/
def fnExactSegmentCutSpec : ChangeSpec := { name := "fnExactSegmentCut", fn := fun _ => fun
  | [d1, d2] => { results := [.lit (.bool true)], args := [d1, d2] }
  | _ => none }
def fnExactSegmentCutRow : OpenClaim := { program := "ytnagpaikjikhaaa", sum := "224a20a019c0d80757d77f46aa7b3ca73fbf4c5d693e1b3c004eef1d5d48ed85", func := "loop.example/netstack/laws.FnExactSegmentCut", spec := "fnExactSegmentCut", unfollowed := true, recurses := true, apart := false }
def FnExactSegmentCutSaid : Prop := fnExactSegmentCutRow.holds Try.pinned (OpenSpec.ofChange fnExactSegmentCutSpec)

/-- ITS FALSE NEIGHBOUR: 'it returns false'. Refute it at one input. -/
def fnExactSegmentCutWrong : ChangeSpec := { name := "fnExactSegmentCut", fn := fun _ => fun
  | [d1, d2] => { results := [.lit (.bool false)], args := [d1, d2] }
  | _ => none }
def FnExactSegmentCutWrongFalsely : Prop := fnExactSegmentCutRow.holds Try.pinned (OpenSpec.ofChange fnExactSegmentCutWrong)

/-- 'laws.FnExactWrapped': WHATEVER THE INPUT: true; the input reads as it did. -/
def fnExactWrappedSpec : ChangeSpec := { name := "fnExactWrapped", fn := fun _ => fun
  | [d1, d2, d3, d4, d5] => { results := [.lit (.bool true)], args := [d1, d2, d3, d4, d5] }
  | _ => none }
def fnExactWrappedRow : OpenClaim := { program := "ytnagpaikjikhaaa", sum := "224a20a019c0d80757d77f46aa7b3ca73fbf4c5d693e1b3c004eef1d5d48ed85", func := "loop.example/netstack/laws.FnExactWrapped", spec := "fnExactWrapped", unfollowed := true, recurses := true, apart := false }
def FnExactWrappedSaid : Prop := fnExactWrappedRow.holds Try.pinned (OpenSpec.ofChange fnExactWrappedSpec)

/-- ITS FALSE NEIGHBOUR: 'it returns false'. Refute it at one input. -/
def fnExactWrappedWrong : ChangeSpec := { name := "fnExactWrapped", fn := fun _ => fun
  | [d1, d2, d3, d4, d5] => { results := [.lit (.bool false)], args := [d1, d2, d3, d4, d5] }
  | _ => none }
def FnExactWrappedWrongFalsely : Prop := fnExactWrappedRow.holds Try.pinned (OpenSpec.ofChange fnExactWrappedWrong)

/-- 'laws.FnWrapped': WHATEVER THE INPUT: true; the input reads as it did. -/
def fnWrappedSpec : ChangeSpec := { name := "fnWrapped", fn := fun _ => fun
  | [d] => { results := [.lit (.bool true)], args := [d] }
  | _ => none }
def fnWrappedRow : OpenClaim := { program := "ytnagpaikjikhaaa", sum := "224a20a019c0d80757d77f46aa7b3ca73fbf4c5d693e1b3c004eef1d5d48ed85", func := "loop.example/netstack/laws.FnWrapped", spec := "fnWrapped", unfollowed := true, recurses := true, apart := false }
def FnWrappedSaid : Prop := fnWrappedRow.holds Try.pinned (OpenSpec.ofChange fnWrappedSpec)

/-- ITS FALSE NEIGHBOUR: 'it returns false'. Refute it at one input. -/
def fnWrappedWrong : ChangeSpec := { name := "fnWrapped", fn := fun _ => fun
  | [d] => { results := [.lit (.bool false)], args := [d] }
  | _ => none }
def FnWrappedWrongFalsely : Prop := fnWrappedRow.holds Try.pinned (OpenSpec.ofChange fnWrappedWrong)

/-- 'laws.FnExactUnwrapped': WHATEVER THE INPUT: true; the input reads as it did. -/
def fnExactUnwrappedSpec : ChangeSpec := { name := "fnExactUnwrapped", fn := fun _ => fun
  | [d1, d2, d3] => { results := [.lit (.bool true)], args := [d1, d2, d3] }
  | _ => none }
def fnExactUnwrappedRow : OpenClaim := { program := "ytnagpaikjikhaaa", sum := "224a20a019c0d80757d77f46aa7b3ca73fbf4c5d693e1b3c004eef1d5d48ed85", func := "loop.example/netstack/laws.FnExactUnwrapped", spec := "fnExactUnwrapped", unfollowed := true, recurses := true, apart := false }
def FnExactUnwrappedSaid : Prop := fnExactUnwrappedRow.holds Try.pinned (OpenSpec.ofChange fnExactUnwrappedSpec)

/-- ITS FALSE NEIGHBOUR: 'it returns false'. Refute it at one input. -/
def fnExactUnwrappedWrong : ChangeSpec := { name := "fnExactUnwrapped", fn := fun _ => fun
  | [d1, d2, d3] => { results := [.lit (.bool false)], args := [d1, d2, d3] }
  | _ => none }
def FnExactUnwrappedWrongFalsely : Prop := fnExactUnwrappedRow.holds Try.pinned (OpenSpec.ofChange fnExactUnwrappedWrong)

/-- 'laws.FnUnwrapped': WHATEVER THE INPUT: true; the input reads as it did. -/
def fnUnwrappedSpec : ChangeSpec := { name := "fnUnwrapped", fn := fun _ => fun
  | [d] => { results := [.lit (.bool true)], args := [d] }
  | _ => none }
def fnUnwrappedRow : OpenClaim := { program := "ytnagpaikjikhaaa", sum := "224a20a019c0d80757d77f46aa7b3ca73fbf4c5d693e1b3c004eef1d5d48ed85", func := "loop.example/netstack/laws.FnUnwrapped", spec := "fnUnwrapped", unfollowed := true, recurses := true, apart := false }
def FnUnwrappedSaid : Prop := fnUnwrappedRow.holds Try.pinned (OpenSpec.ofChange fnUnwrappedSpec)

/-- ITS FALSE NEIGHBOUR: 'it returns false'. Refute it at one input. -/
def fnUnwrappedWrong : ChangeSpec := { name := "fnUnwrapped", fn := fun _ => fun
  | [d] => { results := [.lit (.bool false)], args := [d] }
  | _ => none }
def FnUnwrappedWrongFalsely : Prop := fnUnwrappedRow.holds Try.pinned (OpenSpec.ofChange fnUnwrappedWrong)

/- THE SECOND FORM. 'bulk': how many values and letters a reading holds, each counted each time it is reached (what is shared counts as often as it is met; a slice's spare places count too). A statement '..UptoSaid' is the law's where the arguments, and the package variables that the reading takes, are together of bulk at most 1048576: NARROWER than '..Said'. Prove '..Said' where nothing that the law and all that it calls make is longer than what came in: it says more and counts as full. Else prove '..UptoSaid'. A law counts once. -/
mutual
def uptoBulk {H : Type} : DataW H → Nat
  | .lit (.string bytes) => bytes.length + 1
  | .lit _ => 1
  | .nil => 1
  | .ptr d => uptoBulk d + 1
  | .slice elems spare => uptoBulkAll elems + uptoBulkAll spare + 1
  | .agg parts => uptoBulkAll parts + 1
  | .iface _ d => uptoBulk d + 1
  | .map entries => uptoBulkEntries entries + 1
  | .held _ => 1
def uptoBulkAll {H : Type} : List (DataW H) → Nat
  | [] => 0
  | d :: r => uptoBulk d + uptoBulkAll r
def uptoBulkEntries {H : Type} : List (Lit × DataW H) → Nat
  | [] => 0
  | x :: r => uptoBulkEntry x + uptoBulkEntries r
def uptoBulkEntry {H : Type} : Lit × DataW H → Nat
  | (.string bytes, d) => bytes.length + uptoBulk d + 1
  | (_, d) => uptoBulk d + 1
 end
def uptoSmall : (H : Type) → List (DataW H) → Bool := fun _ ds => decide (uptoBulkAll ds ≤ 1048576)
def OpenSpec.upto (s : _root_.Go.ChangeSpec) : _root_.Go.OpenSpec := { _root_.Go.OpenSpec.ofChange s with cond := some uptoSmall }

/-- 'laws.FnSegmentCut', WHERE WHAT IT READS IS OF BULK AT MOST 1048576: true; the input reads as it did. -/
def fnSegmentCutUptoRow : OpenClaim := { program := "ytnagpaikjikhaaa", sum := "224a20a019c0d80757d77f46aa7b3ca73fbf4c5d693e1b3c004eef1d5d48ed85", func := "loop.example/netstack/laws.FnSegmentCut", spec := "fnSegmentCut", unfollowed := true, recurses := true, apart := false, narrowed := true }
def FnSegmentCutUptoSaid : Prop := fnSegmentCutUptoRow.holds Try.pinned (OpenSpec.upto fnSegmentCutSpec)

/-- 'laws.FnSegmentJoin', WHERE WHAT IT READS IS OF BULK AT MOST 1048576: true; the input reads as it did. -/
def fnSegmentJoinUptoRow : OpenClaim := { program := "ytnagpaikjikhaaa", sum := "224a20a019c0d80757d77f46aa7b3ca73fbf4c5d693e1b3c004eef1d5d48ed85", func := "loop.example/netstack/laws.FnSegmentJoin", spec := "fnSegmentJoin", unfollowed := true, recurses := true, apart := false, narrowed := true }
def FnSegmentJoinUptoSaid : Prop := fnSegmentJoinUptoRow.holds Try.pinned (OpenSpec.upto fnSegmentJoinSpec)

/-- 'laws.FnExactSegmentCut', WHERE WHAT IT READS IS OF BULK AT MOST 1048576: true; the input reads as it did. -/
def fnExactSegmentCutUptoRow : OpenClaim := { program := "ytnagpaikjikhaaa", sum := "224a20a019c0d80757d77f46aa7b3ca73fbf4c5d693e1b3c004eef1d5d48ed85", func := "loop.example/netstack/laws.FnExactSegmentCut", spec := "fnExactSegmentCut", unfollowed := true, recurses := true, apart := false, narrowed := true }
def FnExactSegmentCutUptoSaid : Prop := fnExactSegmentCutUptoRow.holds Try.pinned (OpenSpec.upto fnExactSegmentCutSpec)

/-- 'laws.FnExactWrapped', WHERE WHAT IT READS IS OF BULK AT MOST 1048576: true; the input reads as it did. -/
def fnExactWrappedUptoRow : OpenClaim := { program := "ytnagpaikjikhaaa", sum := "224a20a019c0d80757d77f46aa7b3ca73fbf4c5d693e1b3c004eef1d5d48ed85", func := "loop.example/netstack/laws.FnExactWrapped", spec := "fnExactWrapped", unfollowed := true, recurses := true, apart := false, narrowed := true }
def FnExactWrappedUptoSaid : Prop := fnExactWrappedUptoRow.holds Try.pinned (OpenSpec.upto fnExactWrappedSpec)

/-- 'laws.FnWrapped', WHERE WHAT IT READS IS OF BULK AT MOST 1048576: true; the input reads as it did. -/
def fnWrappedUptoRow : OpenClaim := { program := "ytnagpaikjikhaaa", sum := "224a20a019c0d80757d77f46aa7b3ca73fbf4c5d693e1b3c004eef1d5d48ed85", func := "loop.example/netstack/laws.FnWrapped", spec := "fnWrapped", unfollowed := true, recurses := true, apart := false, narrowed := true }
def FnWrappedUptoSaid : Prop := fnWrappedUptoRow.holds Try.pinned (OpenSpec.upto fnWrappedSpec)

/-- 'laws.FnExactUnwrapped', WHERE WHAT IT READS IS OF BULK AT MOST 1048576: true; the input reads as it did. -/
def fnExactUnwrappedUptoRow : OpenClaim := { program := "ytnagpaikjikhaaa", sum := "224a20a019c0d80757d77f46aa7b3ca73fbf4c5d693e1b3c004eef1d5d48ed85", func := "loop.example/netstack/laws.FnExactUnwrapped", spec := "fnExactUnwrapped", unfollowed := true, recurses := true, apart := false, narrowed := true }
def FnExactUnwrappedUptoSaid : Prop := fnExactUnwrappedUptoRow.holds Try.pinned (OpenSpec.upto fnExactUnwrappedSpec)

/-- 'laws.FnUnwrapped', WHERE WHAT IT READS IS OF BULK AT MOST 1048576: true; the input reads as it did. -/
def fnUnwrappedUptoRow : OpenClaim := { program := "ytnagpaikjikhaaa", sum := "224a20a019c0d80757d77f46aa7b3ca73fbf4c5d693e1b3c004eef1d5d48ed85", func := "loop.example/netstack/laws.FnUnwrapped", spec := "fnUnwrapped", unfollowed := true, recurses := true, apart := false, narrowed := true }
def FnUnwrappedUptoSaid : Prop := fnUnwrappedUptoRow.holds Try.pinned (OpenSpec.upto fnUnwrappedSpec)

end Rows
end Go.Proofs.Ytnagpaikjikhaaa
