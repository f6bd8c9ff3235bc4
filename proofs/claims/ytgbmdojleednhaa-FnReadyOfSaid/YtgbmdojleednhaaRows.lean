/-
  No cell of these rows narrows 'for every input' (looked for: loops, veiled, ifaces, maps, wideKeys, modest, calm, conditions, laid).
  DERIVED. THE GIVEN ROWS OF THIS SEAT. 4 by the template 'for every input the law returns true; each argument reads behind the call as it read before'; 0 by the template 'total and deterministic' (their statements: YtgbmdojleednhaaTotals.lean).
  GIVEN WITH THE SEED: the statements are not yours to turn. If you find one false, say at which input.
  Laid BY PROGRAM, IN A SANDBOX (cutbox-rows.mjs): the forced cells as the released guide's own fill.sh prints them over the translation 464723115e9a359d… (all of the seat's roots in one cut). By AI agents, Wed Nov 11 2026. No macro, syntax, notation, axiom, sorry.
-/
import Derived.Test.YtgbmdojleednhaaChecked
import GoSem.Claim
import GoSem.ClaimJoined
import GoSem.ClaimMapViews
import Derived.JoinedTies
import Derived.KernelRfl
namespace Go.Proofs.Ytgbmdojleednhaa
/- THE CELL 'sum', in the pinned program and in every row, IS THE sha256 OF THE DUMP (.gsa) THAT YtgbmdojleednhaaProg.lean LOADS. Nothing in Lean hashes anything: it is a label: what it is worth is what the hold of that sum in a sandbox is worth. -/
noncomputable def Try.pinned : Pinned := { name := "ytgbmdojleednhaa", sum := "464723115e9a359d29fad1b10c25bb8e170d5827354edebc8fa751442e0e9c23", checked := Try.checked }
namespace Rows
def none {H : Type} : Left H := { results := [], args := [] }

/-- 'laws.FnEndListen': WHATEVER THE INPUT: true; the input reads as it did. -/
def fnEndListenSpec : ChangeSpec := { name := "fnEndListen", fn := fun _ => fun
  | [d] => { results := [.lit (.bool true)], args := [d] }
  | _ => none }
def fnEndListenRow : OpenClaim := { program := "ytgbmdojleednhaa", sum := "464723115e9a359d29fad1b10c25bb8e170d5827354edebc8fa751442e0e9c23", func := "loop.example/netstack/laws.FnEndListen", spec := "fnEndListen", apart := false }
def FnEndListenSaid : Prop := fnEndListenRow.holds Try.pinned (OpenSpec.ofChange fnEndListenSpec)

/-- ITS FALSE NEIGHBOUR: 'it returns false'. Refute it at one input. -/
def fnEndListenWrong : ChangeSpec := { name := "fnEndListen", fn := fun _ => fun
  | [d] => { results := [.lit (.bool false)], args := [d] }
  | _ => none }
def FnEndListenWrongFalsely : Prop := fnEndListenRow.holds Try.pinned (OpenSpec.ofChange fnEndListenWrong)

/-- 'laws.FnEndTick': WHATEVER THE INPUT: true; the input reads as it did. -/
def fnEndTickSpec : ChangeSpec := { name := "fnEndTick", fn := fun _ => fun
  | [d] => { results := [.lit (.bool true)], args := [d] }
  | _ => none }
def fnEndTickRow : OpenClaim := { program := "ytgbmdojleednhaa", sum := "464723115e9a359d29fad1b10c25bb8e170d5827354edebc8fa751442e0e9c23", func := "loop.example/netstack/laws.FnEndTick", spec := "fnEndTick", unfollowed := true, recurses := true, apart := false }
def FnEndTickSaid : Prop := fnEndTickRow.holds Try.pinned (OpenSpec.ofChange fnEndTickSpec)

/-- ITS FALSE NEIGHBOUR: 'it returns false'. Refute it at one input. -/
def fnEndTickWrong : ChangeSpec := { name := "fnEndTick", fn := fun _ => fun
  | [d] => { results := [.lit (.bool false)], args := [d] }
  | _ => none }
def FnEndTickWrongFalsely : Prop := fnEndTickRow.holds Try.pinned (OpenSpec.ofChange fnEndTickWrong)

/-- 'laws.FnEndRead': WHATEVER THE INPUT: true; the input reads as it did. -/
def fnEndReadSpec : ChangeSpec := { name := "fnEndRead", fn := fun _ => fun
  | [d] => { results := [.lit (.bool true)], args := [d] }
  | _ => none }
def fnEndReadRow : OpenClaim := { program := "ytgbmdojleednhaa", sum := "464723115e9a359d29fad1b10c25bb8e170d5827354edebc8fa751442e0e9c23", func := "loop.example/netstack/laws.FnEndRead", spec := "fnEndRead", unfollowed := true, recurses := true, apart := false }
def FnEndReadSaid : Prop := fnEndReadRow.holds Try.pinned (OpenSpec.ofChange fnEndReadSpec)

/-- ITS FALSE NEIGHBOUR: 'it returns false'. Refute it at one input. -/
def fnEndReadWrong : ChangeSpec := { name := "fnEndRead", fn := fun _ => fun
  | [d] => { results := [.lit (.bool false)], args := [d] }
  | _ => none }
def FnEndReadWrongFalsely : Prop := fnEndReadRow.holds Try.pinned (OpenSpec.ofChange fnEndReadWrong)

/-- 'laws.FnReadyOf': WHATEVER THE INPUT: true; the input reads as it did. -/
def fnReadyOfSpec : ChangeSpec := { name := "fnReadyOf", fn := fun _ => fun
  | [d] => { results := [.lit (.bool true)], args := [d] }
  | _ => none }
def fnReadyOfRow : OpenClaim := { program := "ytgbmdojleednhaa", sum := "464723115e9a359d29fad1b10c25bb8e170d5827354edebc8fa751442e0e9c23", func := "loop.example/netstack/laws.FnReadyOf", spec := "fnReadyOf", apart := false }
def FnReadyOfSaid : Prop := fnReadyOfRow.holds Try.pinned (OpenSpec.ofChange fnReadyOfSpec)

/-- ITS FALSE NEIGHBOUR: 'it returns false'. Refute it at one input. -/
def fnReadyOfWrong : ChangeSpec := { name := "fnReadyOf", fn := fun _ => fun
  | [d] => { results := [.lit (.bool false)], args := [d] }
  | _ => none }
def FnReadyOfWrongFalsely : Prop := fnReadyOfRow.holds Try.pinned (OpenSpec.ofChange fnReadyOfWrong)

/- THE SECOND FORM. 'bulk': how many values and letters a reading holds, each counted each time it is reached (what is shared counts as often as it is met; a slice's spare places count too). A statement '..UptoSaid' is the law's where the arguments, and the package variables that the reading takes, are together of bulk at most 1048576: NARROWER than '..Said'. Prove '..Said' where nothing that the law and all that it calls make is longer than what came in: it says more and counts as full. Else prove '..UptoSaid'. A law counts once. -/
mutual
def uptoBulk {H : Type} : DataW H → Nat
  | .lit (.string bytes) => bytes.length + 1
  | .lit _ => 1
  | .nil => 1
  | .ptr d => uptoBulk d + 1
  | .slice elems spare => uptoBulkAll elems + uptoBulkAll spare + 1
  | .agg parts => uptoBulkAll parts + 1
  | .iface _ d => uptoBulk d + 1
  | .map entries => uptoBulkEntries entries + 1
  | .held _ => 1
def uptoBulkAll {H : Type} : List (DataW H) → Nat
  | [] => 0
  | d :: r => uptoBulk d + uptoBulkAll r
def uptoBulkEntries {H : Type} : List (Lit × DataW H) → Nat
  | [] => 0
  | x :: r => uptoBulkEntry x + uptoBulkEntries r
def uptoBulkEntry {H : Type} : Lit × DataW H → Nat
  | (.string bytes, d) => bytes.length + uptoBulk d + 1
  | (_, d) => uptoBulk d + 1
 end
def uptoSmall : (H : Type) → List (DataW H) → Bool := fun _ ds => decide (uptoBulkAll ds ≤ 1048576)
def OpenSpec.upto (s : _root_.Go.ChangeSpec) : _root_.Go.OpenSpec := { _root_.Go.OpenSpec.ofChange s with cond := some uptoSmall }

/-- 'laws.FnEndListen', WHERE WHAT IT READS IS OF BULK AT MOST 1048576: true; the input reads as it did. -/
def fnEndListenUptoRow : OpenClaim := { program := "ytgbmdojleednhaa", sum := "464723115e9a359d29fad1b10c25bb8e170d5827354edebc8fa751442e0e9c23", func := "loop.example/netstack/laws.FnEndListen", spec := "fnEndListen", apart := false, narrowed := true }
def FnEndListenUptoSaid : Prop := fnEndListenUptoRow.holds Try.pinned (OpenSpec.upto fnEndListenSpec)

/-- 'laws.FnEndTick', WHERE WHAT IT READS IS OF BULK AT MOST 1048576: true; the input reads as it did. -/
def fnEndTickUptoRow : OpenClaim := { program := "ytgbmdojleednhaa", sum := "464723115e9a359d29fad1b10c25bb8e170d5827354edebc8fa751442e0e9c23", func := "loop.example/netstack/laws.FnEndTick", spec := "fnEndTick", unfollowed := true, recurses := true, apart := false, narrowed := true }
def FnEndTickUptoSaid : Prop := fnEndTickUptoRow.holds Try.pinned (OpenSpec.upto fnEndTickSpec)

/-- 'laws.FnEndRead', WHERE WHAT IT READS IS OF BULK AT MOST 1048576: true; the input reads as it did. -/
def fnEndReadUptoRow : OpenClaim := { program := "ytgbmdojleednhaa", sum := "464723115e9a359d29fad1b10c25bb8e170d5827354edebc8fa751442e0e9c23", func := "loop.example/netstack/laws.FnEndRead", spec := "fnEndRead", unfollowed := true, recurses := true, apart := false, narrowed := true }
def FnEndReadUptoSaid : Prop := fnEndReadUptoRow.holds Try.pinned (OpenSpec.upto fnEndReadSpec)

/-- 'laws.FnReadyOf', WHERE WHAT IT READS IS OF BULK AT MOST 1048576: true; the input reads as it did. -/
def fnReadyOfUptoRow : OpenClaim := { program := "ytgbmdojleednhaa", sum := "464723115e9a359d29fad1b10c25bb8e170d5827354edebc8fa751442e0e9c23", func := "loop.example/netstack/laws.FnReadyOf", spec := "fnReadyOf", apart := false, narrowed := true }
def FnReadyOfUptoSaid : Prop := fnReadyOfUptoRow.holds Try.pinned (OpenSpec.upto fnReadyOfSpec)

end Rows
end Go.Proofs.Ytgbmdojleednhaa
