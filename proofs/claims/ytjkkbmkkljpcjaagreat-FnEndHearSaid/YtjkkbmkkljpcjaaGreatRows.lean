/-
  No cell of these rows narrows 'for every input' (looked for: loops, veiled, ifaces, maps, wideKeys, modest, calm, conditions, laid).
  DERIVED. THE GIVEN ROWS OF THIS SEAT. 4 by the template 'for every input the law returns true; each argument reads behind the call as it read before'; 0 by the template 'total and deterministic' (their statements: YtjkkbmkkljpcjaaGreatTotals.lean).
  GIVEN WITH THE SEED: the statements are not yours to turn. If you find one false, say at which input.
  Laid BY PROGRAM, IN A SANDBOX (cutbox-rows.mjs): the forced cells as the released guide's own fill.sh prints them over the translation 48f0b2940acb20fa… (all of the seat's roots in one cut). By AI agents, Wed Nov 11 2026. No macro, syntax, notation, axiom, sorry.
-/
import Derived.Test.YtjkkbmkkljpcjaaGreatChecked
import GoSem.Claim
import GoSem.ClaimJoined
import GoSem.ClaimMapViews
import Derived.JoinedTies
import Derived.KernelRfl
namespace Go.Proofs.YtjkkbmkkljpcjaaGreat
/- THE CELL 'sum', in the pinned program and in every row, IS THE sha256 OF THE DUMP (.gsa) THAT YtjkkbmkkljpcjaaGreatProg.lean LOADS. Nothing in Lean hashes anything: it is a label: what it is worth is what the hold of that sum in a sandbox is worth. -/
noncomputable def Tryz.pinned : Pinned := { name := "ytjkkbmkkljpcjaagreat", sum := "48f0b2940acb20fa860cc580cb7034c7de7423e6ccaca7bc2e1638b6c0c5eaf9", checked := Tryz.checked }
namespace Rows
def none {H : Type} : Left H := { results := [], args := [] }

/-- 'laws.FnExactEndHear': WHATEVER THE INPUT: true; the input reads as it did. -/
def fnExactEndHearSpec : ChangeSpec := { name := "fnExactEndHear", fn := fun _ => fun
  | [d1, d2, d3, d4] => { results := [.lit (.bool true)], args := [d1, d2, d3, d4] }
  | _ => none }
def fnExactEndHearRow : OpenClaim := { program := "ytjkkbmkkljpcjaagreat", sum := "48f0b2940acb20fa860cc580cb7034c7de7423e6ccaca7bc2e1638b6c0c5eaf9", func := "loop.example/netstack/laws.FnExactEndHear", spec := "fnExactEndHear", inPlace := ["slices.overlaps[loop.example/netstack/impl.Early]"], unfollowed := true, recurses := true, apart := false }
def FnExactEndHearSaid : Prop := fnExactEndHearRow.holds Tryz.pinned (OpenSpec.ofChange fnExactEndHearSpec)

/-- ITS FALSE NEIGHBOUR: 'it returns false'. Refute it at one input. -/
def fnExactEndHearWrong : ChangeSpec := { name := "fnExactEndHear", fn := fun _ => fun
  | [d1, d2, d3, d4] => { results := [.lit (.bool false)], args := [d1, d2, d3, d4] }
  | _ => none }
def FnExactEndHearWrongFalsely : Prop := fnExactEndHearRow.holds Tryz.pinned (OpenSpec.ofChange fnExactEndHearWrong)

/-- 'laws.FnEndHear': WHATEVER THE INPUT: true; the input reads as it did. -/
def fnEndHearSpec : ChangeSpec := { name := "fnEndHear", fn := fun _ => fun
  | [d] => { results := [.lit (.bool true)], args := [d] }
  | _ => none }
def fnEndHearRow : OpenClaim := { program := "ytjkkbmkkljpcjaagreat", sum := "48f0b2940acb20fa860cc580cb7034c7de7423e6ccaca7bc2e1638b6c0c5eaf9", func := "loop.example/netstack/laws.FnEndHear", spec := "fnEndHear", inPlace := ["slices.overlaps[loop.example/netstack/impl.Early]"], unfollowed := true, recurses := true, apart := false }
def FnEndHearSaid : Prop := fnEndHearRow.holds Tryz.pinned (OpenSpec.ofChange fnEndHearSpec)

/-- ITS FALSE NEIGHBOUR: 'it returns false'. Refute it at one input. -/
def fnEndHearWrong : ChangeSpec := { name := "fnEndHear", fn := fun _ => fun
  | [d] => { results := [.lit (.bool false)], args := [d] }
  | _ => none }
def FnEndHearWrongFalsely : Prop := fnEndHearRow.holds Tryz.pinned (OpenSpec.ofChange fnEndHearWrong)

/-- 'laws.FnCutHeard': WHATEVER THE INPUT: true; the input reads as it did. -/
def fnCutHeardSpec : ChangeSpec := { name := "fnCutHeard", fn := fun _ => fun
  | [d] => { results := [.lit (.bool true)], args := [d] }
  | _ => none }
def fnCutHeardRow : OpenClaim := { program := "ytjkkbmkkljpcjaagreat", sum := "48f0b2940acb20fa860cc580cb7034c7de7423e6ccaca7bc2e1638b6c0c5eaf9", func := "loop.example/netstack/laws.FnCutHeard", spec := "fnCutHeard", inPlace := ["slices.overlaps[loop.example/netstack/impl.Early]"], unfollowed := true, recurses := true, apart := false }
def FnCutHeardSaid : Prop := fnCutHeardRow.holds Tryz.pinned (OpenSpec.ofChange fnCutHeardSpec)

/-- ITS FALSE NEIGHBOUR: 'it returns false'. Refute it at one input. -/
def fnCutHeardWrong : ChangeSpec := { name := "fnCutHeard", fn := fun _ => fun
  | [d] => { results := [.lit (.bool false)], args := [d] }
  | _ => none }
def FnCutHeardWrongFalsely : Prop := fnCutHeardRow.holds Tryz.pinned (OpenSpec.ofChange fnCutHeardWrong)

/-- 'laws.FnEndOver': WHATEVER THE INPUT: true; the input reads as it did. -/
def fnEndOverSpec : ChangeSpec := { name := "fnEndOver", fn := fun _ => fun
  | [d] => { results := [.lit (.bool true)], args := [d] }
  | _ => none }
def fnEndOverRow : OpenClaim := { program := "ytjkkbmkkljpcjaagreat", sum := "48f0b2940acb20fa860cc580cb7034c7de7423e6ccaca7bc2e1638b6c0c5eaf9", func := "loop.example/netstack/laws.FnEndOver", spec := "fnEndOver", inPlace := ["slices.overlaps[loop.example/netstack/impl.Early]"], unfollowed := true, recurses := true, apart := false }
def FnEndOverSaid : Prop := fnEndOverRow.holds Tryz.pinned (OpenSpec.ofChange fnEndOverSpec)

/-- ITS FALSE NEIGHBOUR: 'it returns false'. Refute it at one input. -/
def fnEndOverWrong : ChangeSpec := { name := "fnEndOver", fn := fun _ => fun
  | [d] => { results := [.lit (.bool false)], args := [d] }
  | _ => none }
def FnEndOverWrongFalsely : Prop := fnEndOverRow.holds Tryz.pinned (OpenSpec.ofChange fnEndOverWrong)

/- THE SECOND FORM. 'bulk': how many values and letters a reading holds, each counted each time it is reached (what is shared counts as often as it is met; a slice's spare places count too). A statement '..UptoSaid' is the law's where the arguments, and the package variables that the reading takes, are together of bulk at most 1048576: NARROWER than '..Said'. Prove '..Said' where nothing that the law and all that it calls make is longer than what came in: it says more and counts as full. Else prove '..UptoSaid'. A law counts once. -/
mutual
def uptoBulk {H : Type} : DataW H → Nat
  | .lit (.string bytes) => bytes.length + 1
  | .lit _ => 1
  | .nil => 1
  | .ptr d => uptoBulk d + 1
  | .slice elems spare => uptoBulkAll elems + uptoBulkAll spare + 1
  | .agg parts => uptoBulkAll parts + 1
  | .iface _ d => uptoBulk d + 1
  | .map entries => uptoBulkEntries entries + 1
  | .held _ => 1
def uptoBulkAll {H : Type} : List (DataW H) → Nat
  | [] => 0
  | d :: r => uptoBulk d + uptoBulkAll r
def uptoBulkEntries {H : Type} : List (Lit × DataW H) → Nat
  | [] => 0
  | x :: r => uptoBulkEntry x + uptoBulkEntries r
def uptoBulkEntry {H : Type} : Lit × DataW H → Nat
  | (.string bytes, d) => bytes.length + uptoBulk d + 1
  | (_, d) => uptoBulk d + 1
 end
def uptoSmall : (H : Type) → List (DataW H) → Bool := fun _ ds => decide (uptoBulkAll ds ≤ 1048576)
def OpenSpec.upto (s : _root_.Go.ChangeSpec) : _root_.Go.OpenSpec := { _root_.Go.OpenSpec.ofChange s with cond := some uptoSmall }

/-- 'laws.FnExactEndHear', WHERE WHAT IT READS IS OF BULK AT MOST 1048576: true; the input reads as it did. -/
def fnExactEndHearUptoRow : OpenClaim := { program := "ytjkkbmkkljpcjaagreat", sum := "48f0b2940acb20fa860cc580cb7034c7de7423e6ccaca7bc2e1638b6c0c5eaf9", func := "loop.example/netstack/laws.FnExactEndHear", spec := "fnExactEndHear", inPlace := ["slices.overlaps[loop.example/netstack/impl.Early]"], unfollowed := true, recurses := true, apart := false, narrowed := true }
def FnExactEndHearUptoSaid : Prop := fnExactEndHearUptoRow.holds Tryz.pinned (OpenSpec.upto fnExactEndHearSpec)

/-- 'laws.FnEndHear', WHERE WHAT IT READS IS OF BULK AT MOST 1048576: true; the input reads as it did. -/
def fnEndHearUptoRow : OpenClaim := { program := "ytjkkbmkkljpcjaagreat", sum := "48f0b2940acb20fa860cc580cb7034c7de7423e6ccaca7bc2e1638b6c0c5eaf9", func := "loop.example/netstack/laws.FnEndHear", spec := "fnEndHear", inPlace := ["slices.overlaps[loop.example/netstack/impl.Early]"], unfollowed := true, recurses := true, apart := false, narrowed := true }
def FnEndHearUptoSaid : Prop := fnEndHearUptoRow.holds Tryz.pinned (OpenSpec.upto fnEndHearSpec)

/-- 'laws.FnCutHeard', WHERE WHAT IT READS IS OF BULK AT MOST 1048576: true; the input reads as it did. -/
def fnCutHeardUptoRow : OpenClaim := { program := "ytjkkbmkkljpcjaagreat", sum := "48f0b2940acb20fa860cc580cb7034c7de7423e6ccaca7bc2e1638b6c0c5eaf9", func := "loop.example/netstack/laws.FnCutHeard", spec := "fnCutHeard", inPlace := ["slices.overlaps[loop.example/netstack/impl.Early]"], unfollowed := true, recurses := true, apart := false, narrowed := true }
def FnCutHeardUptoSaid : Prop := fnCutHeardUptoRow.holds Tryz.pinned (OpenSpec.upto fnCutHeardSpec)

/-- 'laws.FnEndOver', WHERE WHAT IT READS IS OF BULK AT MOST 1048576: true; the input reads as it did. -/
def fnEndOverUptoRow : OpenClaim := { program := "ytjkkbmkkljpcjaagreat", sum := "48f0b2940acb20fa860cc580cb7034c7de7423e6ccaca7bc2e1638b6c0c5eaf9", func := "loop.example/netstack/laws.FnEndOver", spec := "fnEndOver", inPlace := ["slices.overlaps[loop.example/netstack/impl.Early]"], unfollowed := true, recurses := true, apart := false, narrowed := true }
def FnEndOverUptoSaid : Prop := fnEndOverUptoRow.holds Tryz.pinned (OpenSpec.upto fnEndOverSpec)

end Rows
end Go.Proofs.YtjkkbmkkljpcjaaGreat
