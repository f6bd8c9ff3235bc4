/-
  No cell of these rows narrows 'for every input' (looked for: loops, veiled, ifaces, maps, wideKeys, modest, calm, conditions, laid).
  DERIVED. THE GIVEN ROWS OF THIS SEAT. 9 by the template 'for every input the law returns true; each argument reads behind the call as it read before'; 0 by the template 'total and deterministic' (their statements: YtdmepjjepogddaaGreatTotals.lean).
  GIVEN WITH THE SEED: the statements are not yours to turn. If you find one false, say at which input.
  Laid BY PROGRAM, IN A SANDBOX (cutbox-rows.mjs): the forced cells as the released guide's own fill.sh prints them over the translation d47ee71c3fd825fd… (all of the seat's roots in one cut). By AI agents, Wed Nov 11 2026. No macro, syntax, notation, axiom, sorry.
-/
import Derived.Test.YtdmepjjepogddaaGreatChecked
import GoSem.Claim
import GoSem.ClaimJoined
import GoSem.ClaimMapViews
import Derived.JoinedTies
import Derived.KernelRfl
namespace Go.Proofs.YtdmepjjepogddaaGreat
/- THE CELL 'sum', in the pinned program and in every row, IS THE sha256 OF THE DUMP (.gsa) THAT YtdmepjjepogddaaGreatProg.lean LOADS. Nothing in Lean hashes anything: it is a label: what it is worth is what the hold of that sum in a sandbox is worth. -/
noncomputable def Tryz.pinned : Pinned := { name := "ytdmepjjepogddaagreat", sum := "d47ee71c3fd825fd31fd3f6085a3586a6ecdee1973f5ea65af7f34e246182eaf", checked := Tryz.checked }
namespace Rows
def none {H : Type} : Left H := { results := [], args := [] }

/-- 'laws.FnExactCarried': WHATEVER THE INPUT: true; the input reads as it did. -/
def fnExactCarriedSpec : ChangeSpec := { name := "fnExactCarried", fn := fun _ => fun
  | [d1, d2, d3, d4, d5, d6] => { results := [.lit (.bool true)], args := [d1, d2, d3, d4, d5, d6] }
  | _ => none }
def fnExactCarriedRow : OpenClaim := { program := "ytdmepjjepogddaagreat", sum := "d47ee71c3fd825fd31fd3f6085a3586a6ecdee1973f5ea65af7f34e246182eaf", func := "loop.example/netstack/laws.FnExactCarried", spec := "fnExactCarried", inPlace := ["slices.overlaps[loop.example/netstack/impl.Packet]"], unfollowed := true, recurses := true, apart := false }
def FnExactCarriedSaid : Prop := fnExactCarriedRow.holds Tryz.pinned (OpenSpec.ofChange fnExactCarriedSpec)

/-- ITS FALSE NEIGHBOUR: 'it returns false'. Refute it at one input. -/
def fnExactCarriedWrong : ChangeSpec := { name := "fnExactCarried", fn := fun _ => fun
  | [d1, d2, d3, d4, d5, d6] => { results := [.lit (.bool false)], args := [d1, d2, d3, d4, d5, d6] }
  | _ => none }
def FnExactCarriedWrongFalsely : Prop := fnExactCarriedRow.holds Tryz.pinned (OpenSpec.ofChange fnExactCarriedWrong)

/-- 'laws.FnCarried': WHATEVER THE INPUT: true; the input reads as it did. -/
def fnCarriedSpec : ChangeSpec := { name := "fnCarried", fn := fun _ => fun
  | [d] => { results := [.lit (.bool true)], args := [d] }
  | _ => none }
def fnCarriedRow : OpenClaim := { program := "ytdmepjjepogddaagreat", sum := "d47ee71c3fd825fd31fd3f6085a3586a6ecdee1973f5ea65af7f34e246182eaf", func := "loop.example/netstack/laws.FnCarried", spec := "fnCarried", inPlace := ["slices.overlaps[loop.example/netstack/impl.Packet]"], unfollowed := true, recurses := true, apart := false }
def FnCarriedSaid : Prop := fnCarriedRow.holds Tryz.pinned (OpenSpec.ofChange fnCarriedSpec)

/-- ITS FALSE NEIGHBOUR: 'it returns false'. Refute it at one input. -/
def fnCarriedWrong : ChangeSpec := { name := "fnCarried", fn := fun _ => fun
  | [d] => { results := [.lit (.bool false)], args := [d] }
  | _ => none }
def FnCarriedWrongFalsely : Prop := fnCarriedRow.holds Tryz.pinned (OpenSpec.ofChange fnCarriedWrong)

/-- 'laws.FnMailCarried': WHATEVER THE INPUT: true; the input reads as it did. -/
def fnMailCarriedSpec : ChangeSpec := { name := "fnMailCarried", fn := fun _ => fun
  | [d] => { results := [.lit (.bool true)], args := [d] }
  | _ => none }
def fnMailCarriedRow : OpenClaim := { program := "ytdmepjjepogddaagreat", sum := "d47ee71c3fd825fd31fd3f6085a3586a6ecdee1973f5ea65af7f34e246182eaf", func := "loop.example/netstack/laws.FnMailCarried", spec := "fnMailCarried", inPlace := ["slices.overlaps[loop.example/netstack/impl.Packet]"], unfollowed := true, recurses := true, apart := false }
def FnMailCarriedSaid : Prop := fnMailCarriedRow.holds Tryz.pinned (OpenSpec.ofChange fnMailCarriedSpec)

/-- ITS FALSE NEIGHBOUR: 'it returns false'. Refute it at one input. -/
def fnMailCarriedWrong : ChangeSpec := { name := "fnMailCarried", fn := fun _ => fun
  | [d] => { results := [.lit (.bool false)], args := [d] }
  | _ => none }
def FnMailCarriedWrongFalsely : Prop := fnMailCarriedRow.holds Tryz.pinned (OpenSpec.ofChange fnMailCarriedWrong)

/-- 'laws.FnExactMailCarried': WHATEVER THE INPUT: true; the input reads as it did. -/
def fnExactMailCarriedSpec : ChangeSpec := { name := "fnExactMailCarried", fn := fun _ => fun
  | [d1, d2, d3, d4, d5] => { results := [.lit (.bool true)], args := [d1, d2, d3, d4, d5] }
  | _ => none }
def fnExactMailCarriedRow : OpenClaim := { program := "ytdmepjjepogddaagreat", sum := "d47ee71c3fd825fd31fd3f6085a3586a6ecdee1973f5ea65af7f34e246182eaf", func := "loop.example/netstack/laws.FnExactMailCarried", spec := "fnExactMailCarried", inPlace := ["slices.overlaps[loop.example/netstack/impl.Packet]"], unfollowed := true, recurses := true, apart := false }
def FnExactMailCarriedSaid : Prop := fnExactMailCarriedRow.holds Tryz.pinned (OpenSpec.ofChange fnExactMailCarriedSpec)

/-- ITS FALSE NEIGHBOUR: 'it returns false'. Refute it at one input. -/
def fnExactMailCarriedWrong : ChangeSpec := { name := "fnExactMailCarried", fn := fun _ => fun
  | [d1, d2, d3, d4, d5] => { results := [.lit (.bool false)], args := [d1, d2, d3, d4, d5] }
  | _ => none }
def FnExactMailCarriedWrongFalsely : Prop := fnExactMailCarriedRow.holds Tryz.pinned (OpenSpec.ofChange fnExactMailCarriedWrong)

/-- 'laws.FnWholeNames': WHATEVER THE INPUT: true; the input reads as it did. -/
def fnWholeNamesSpec : ChangeSpec := { name := "fnWholeNames", fn := fun _ => fun
  | [d] => { results := [.lit (.bool true)], args := [d] }
  | _ => none }
def fnWholeNamesRow : OpenClaim := { program := "ytdmepjjepogddaagreat", sum := "d47ee71c3fd825fd31fd3f6085a3586a6ecdee1973f5ea65af7f34e246182eaf", func := "loop.example/netstack/laws.FnWholeNames", spec := "fnWholeNames", inPlace := ["slices.overlaps[loop.example/netstack/impl.Packet]"], unfollowed := true, recurses := true, apart := false }
def FnWholeNamesSaid : Prop := fnWholeNamesRow.holds Tryz.pinned (OpenSpec.ofChange fnWholeNamesSpec)

/-- ITS FALSE NEIGHBOUR: 'it returns false'. Refute it at one input. -/
def fnWholeNamesWrong : ChangeSpec := { name := "fnWholeNames", fn := fun _ => fun
  | [d] => { results := [.lit (.bool false)], args := [d] }
  | _ => none }
def FnWholeNamesWrongFalsely : Prop := fnWholeNamesRow.holds Tryz.pinned (OpenSpec.ofChange fnWholeNamesWrong)

/-- 'laws.FnExactStreamCarried': WHATEVER THE INPUT: true; the input reads as it did. -/
def fnExactStreamCarriedSpec : ChangeSpec := { name := "fnExactStreamCarried", fn := fun _ => fun
  | [d1, d2, d3, d4] => { results := [.lit (.bool true)], args := [d1, d2, d3, d4] }
  | _ => none }
def fnExactStreamCarriedRow : OpenClaim := { program := "ytdmepjjepogddaagreat", sum := "d47ee71c3fd825fd31fd3f6085a3586a6ecdee1973f5ea65af7f34e246182eaf", func := "loop.example/netstack/laws.FnExactStreamCarried", spec := "fnExactStreamCarried", inPlace := ["slices.overlaps[loop.example/netstack/impl.Packet]", "slices.overlaps[loop.example/netstack/impl.Early]"], unfollowed := true, recurses := true, apart := false }
def FnExactStreamCarriedSaid : Prop := fnExactStreamCarriedRow.holds Tryz.pinned (OpenSpec.ofChange fnExactStreamCarriedSpec)

/-- ITS FALSE NEIGHBOUR: 'it returns false'. Refute it at one input. -/
def fnExactStreamCarriedWrong : ChangeSpec := { name := "fnExactStreamCarried", fn := fun _ => fun
  | [d1, d2, d3, d4] => { results := [.lit (.bool false)], args := [d1, d2, d3, d4] }
  | _ => none }
def FnExactStreamCarriedWrongFalsely : Prop := fnExactStreamCarriedRow.holds Tryz.pinned (OpenSpec.ofChange fnExactStreamCarriedWrong)

/-- 'laws.FnStreamCarried': WHATEVER THE INPUT: true; the input reads as it did. -/
def fnStreamCarriedSpec : ChangeSpec := { name := "fnStreamCarried", fn := fun _ => fun
  | [d] => { results := [.lit (.bool true)], args := [d] }
  | _ => none }
def fnStreamCarriedRow : OpenClaim := { program := "ytdmepjjepogddaagreat", sum := "d47ee71c3fd825fd31fd3f6085a3586a6ecdee1973f5ea65af7f34e246182eaf", func := "loop.example/netstack/laws.FnStreamCarried", spec := "fnStreamCarried", inPlace := ["slices.overlaps[loop.example/netstack/impl.Packet]", "slices.overlaps[loop.example/netstack/impl.Early]"], unfollowed := true, recurses := true, apart := false }
def FnStreamCarriedSaid : Prop := fnStreamCarriedRow.holds Tryz.pinned (OpenSpec.ofChange fnStreamCarriedSpec)

/-- ITS FALSE NEIGHBOUR: 'it returns false'. Refute it at one input. -/
def fnStreamCarriedWrong : ChangeSpec := { name := "fnStreamCarried", fn := fun _ => fun
  | [d] => { results := [.lit (.bool false)], args := [d] }
  | _ => none }
def FnStreamCarriedWrongFalsely : Prop := fnStreamCarriedRow.holds Tryz.pinned (OpenSpec.ofChange fnStreamCarriedWrong)

/-- 'laws.FnWholeWords': WHATEVER THE INPUT: true; the input reads as it did. -/
def fnWholeWordsSpec : ChangeSpec := { name := "fnWholeWords", fn := fun _ => fun
  | [d] => { results := [.lit (.bool true)], args := [d] }
  | _ => none }
def fnWholeWordsRow : OpenClaim := { program := "ytdmepjjepogddaagreat", sum := "d47ee71c3fd825fd31fd3f6085a3586a6ecdee1973f5ea65af7f34e246182eaf", func := "loop.example/netstack/laws.FnWholeWords", spec := "fnWholeWords", inPlace := ["slices.overlaps[loop.example/netstack/impl.Packet]", "slices.overlaps[loop.example/netstack/impl.Early]"], unfollowed := true, recurses := true, apart := false }
def FnWholeWordsSaid : Prop := fnWholeWordsRow.holds Tryz.pinned (OpenSpec.ofChange fnWholeWordsSpec)

/-- ITS FALSE NEIGHBOUR: 'it returns false'. Refute it at one input. -/
def fnWholeWordsWrong : ChangeSpec := { name := "fnWholeWords", fn := fun _ => fun
  | [d] => { results := [.lit (.bool false)], args := [d] }
  | _ => none }
def FnWholeWordsWrongFalsely : Prop := fnWholeWordsRow.holds Tryz.pinned (OpenSpec.ofChange fnWholeWordsWrong)

/-- 'laws.FnWholeSealed': WHATEVER THE INPUT: true; the input reads as it did. -/
def fnWholeSealedSpec : ChangeSpec := { name := "fnWholeSealed", fn := fun _ => fun
  | [d] => { results := [.lit (.bool true)], args := [d] }
  | _ => none }
def fnWholeSealedRow : OpenClaim := { program := "ytdmepjjepogddaagreat", sum := "d47ee71c3fd825fd31fd3f6085a3586a6ecdee1973f5ea65af7f34e246182eaf", func := "loop.example/netstack/laws.FnWholeSealed", spec := "fnWholeSealed", inPlace := ["slices.overlaps[loop.example/netstack/impl.Packet]", "slices.overlaps[loop.example/netstack/impl.Early]"], unfollowed := true, recurses := true, apart := false }
def FnWholeSealedSaid : Prop := fnWholeSealedRow.holds Tryz.pinned (OpenSpec.ofChange fnWholeSealedSpec)

/-- ITS FALSE NEIGHBOUR: 'it returns false'. Refute it at one input. -/
def fnWholeSealedWrong : ChangeSpec := { name := "fnWholeSealed", fn := fun _ => fun
  | [d] => { results := [.lit (.bool false)], args := [d] }
  | _ => none }
def FnWholeSealedWrongFalsely : Prop := fnWholeSealedRow.holds Tryz.pinned (OpenSpec.ofChange fnWholeSealedWrong)

/- THE SECOND FORM. 'bulk': how many values and letters a reading holds, each counted each time it is reached (what is shared counts as often as it is met; a slice's spare places count too). A statement '..UptoSaid' is the law's where the arguments, and the package variables that the reading takes, are together of bulk at most 1048576: NARROWER than '..Said'. Prove '..Said' where nothing that the law and all that it calls make is longer than what came in: it says more and counts as full. Else prove '..UptoSaid'. A law counts once. -/
mutual
def uptoBulk {H : Type} : DataW H → Nat
  | .lit (.string bytes) => bytes.length + 1
  | .lit _ => 1
  | .nil => 1
  | .ptr d => uptoBulk d + 1
  | .slice elems spare => uptoBulkAll elems + uptoBulkAll spare + 1
  | .agg parts => uptoBulkAll parts + 1
  | .iface _ d => uptoBulk d + 1
  | .map entries => uptoBulkEntries entries + 1
  | .held _ => 1
def uptoBulkAll {H : Type} : List (DataW H) → Nat
  | [] => 0
  | d :: r => uptoBulk d + uptoBulkAll r
def uptoBulkEntries {H : Type} : List (Lit × DataW H) → Nat
  | [] => 0
  | x :: r => uptoBulkEntry x + uptoBulkEntries r
def uptoBulkEntry {H : Type} : Lit × DataW H → Nat
  | (.string bytes, d) => bytes.length + uptoBulk d + 1
  | (_, d) => uptoBulk d + 1
 end
def uptoSmall : (H : Type) → List (DataW H) → Bool := fun _ ds => decide (uptoBulkAll ds ≤ 1048576)
def OpenSpec.upto (s : _root_.Go.ChangeSpec) : _root_.Go.OpenSpec := { _root_.Go.OpenSpec.ofChange s with cond := some uptoSmall }

/-- 'laws.FnExactCarried', WHERE WHAT IT READS IS OF BULK AT MOST 1048576: true; the input reads as it did. -/
def fnExactCarriedUptoRow : OpenClaim := { program := "ytdmepjjepogddaagreat", sum := "d47ee71c3fd825fd31fd3f6085a3586a6ecdee1973f5ea65af7f34e246182eaf", func := "loop.example/netstack/laws.FnExactCarried", spec := "fnExactCarried", inPlace := ["slices.overlaps[loop.example/netstack/impl.Packet]"], unfollowed := true, recurses := true, apart := false, narrowed := true }
def FnExactCarriedUptoSaid : Prop := fnExactCarriedUptoRow.holds Tryz.pinned (OpenSpec.upto fnExactCarriedSpec)

/-- 'laws.FnCarried', WHERE WHAT IT READS IS OF BULK AT MOST 1048576: true; the input reads as it did. -/
def fnCarriedUptoRow : OpenClaim := { program := "ytdmepjjepogddaagreat", sum := "d47ee71c3fd825fd31fd3f6085a3586a6ecdee1973f5ea65af7f34e246182eaf", func := "loop.example/netstack/laws.FnCarried", spec := "fnCarried", inPlace := ["slices.overlaps[loop.example/netstack/impl.Packet]"], unfollowed := true, recurses := true, apart := false, narrowed := true }
def FnCarriedUptoSaid : Prop := fnCarriedUptoRow.holds Tryz.pinned (OpenSpec.upto fnCarriedSpec)

/-- 'laws.FnMailCarried', WHERE WHAT IT READS IS OF BULK AT MOST 1048576: true; the input reads as it did. -/
def fnMailCarriedUptoRow : OpenClaim := { program := "ytdmepjjepogddaagreat", sum := "d47ee71c3fd825fd31fd3f6085a3586a6ecdee1973f5ea65af7f34e246182eaf", func := "loop.example/netstack/laws.FnMailCarried", spec := "fnMailCarried", inPlace := ["slices.overlaps[loop.example/netstack/impl.Packet]"], unfollowed := true, recurses := true, apart := false, narrowed := true }
def FnMailCarriedUptoSaid : Prop := fnMailCarriedUptoRow.holds Tryz.pinned (OpenSpec.upto fnMailCarriedSpec)

/-- 'laws.FnExactMailCarried', WHERE WHAT IT READS IS OF BULK AT MOST 1048576: true; the input reads as it did. -/
def fnExactMailCarriedUptoRow : OpenClaim := { program := "ytdmepjjepogddaagreat", sum := "d47ee71c3fd825fd31fd3f6085a3586a6ecdee1973f5ea65af7f34e246182eaf", func := "loop.example/netstack/laws.FnExactMailCarried", spec := "fnExactMailCarried", inPlace := ["slices.overlaps[loop.example/netstack/impl.Packet]"], unfollowed := true, recurses := true, apart := false, narrowed := true }
def FnExactMailCarriedUptoSaid : Prop := fnExactMailCarriedUptoRow.holds Tryz.pinned (OpenSpec.upto fnExactMailCarriedSpec)

/-- 'laws.FnWholeNames', WHERE WHAT IT READS IS OF BULK AT MOST 1048576: true; the input reads as it did. -/
def fnWholeNamesUptoRow : OpenClaim := { program := "ytdmepjjepogddaagreat", sum := "d47ee71c3fd825fd31fd3f6085a3586a6ecdee1973f5ea65af7f34e246182eaf", func := "loop.example/netstack/laws.FnWholeNames", spec := "fnWholeNames", inPlace := ["slices.overlaps[loop.example/netstack/impl.Packet]"], unfollowed := true, recurses := true, apart := false, narrowed := true }
def FnWholeNamesUptoSaid : Prop := fnWholeNamesUptoRow.holds Tryz.pinned (OpenSpec.upto fnWholeNamesSpec)

/-- 'laws.FnExactStreamCarried', WHERE WHAT IT READS IS OF BULK AT MOST 1048576: true; the input reads as it did. -/
def fnExactStreamCarriedUptoRow : OpenClaim := { program := "ytdmepjjepogddaagreat", sum := "d47ee71c3fd825fd31fd3f6085a3586a6ecdee1973f5ea65af7f34e246182eaf", func := "loop.example/netstack/laws.FnExactStreamCarried", spec := "fnExactStreamCarried", inPlace := ["slices.overlaps[loop.example/netstack/impl.Packet]", "slices.overlaps[loop.example/netstack/impl.Early]"], unfollowed := true, recurses := true, apart := false, narrowed := true }
def FnExactStreamCarriedUptoSaid : Prop := fnExactStreamCarriedUptoRow.holds Tryz.pinned (OpenSpec.upto fnExactStreamCarriedSpec)

/-- 'laws.FnStreamCarried', WHERE WHAT IT READS IS OF BULK AT MOST 1048576: true; the input reads as it did. -/
def fnStreamCarriedUptoRow : OpenClaim := { program := "ytdmepjjepogddaagreat", sum := "d47ee71c3fd825fd31fd3f6085a3586a6ecdee1973f5ea65af7f34e246182eaf", func := "loop.example/netstack/laws.FnStreamCarried", spec := "fnStreamCarried", inPlace := ["slices.overlaps[loop.example/netstack/impl.Packet]", "slices.overlaps[loop.example/netstack/impl.Early]"], unfollowed := true, recurses := true, apart := false, narrowed := true }
def FnStreamCarriedUptoSaid : Prop := fnStreamCarriedUptoRow.holds Tryz.pinned (OpenSpec.upto fnStreamCarriedSpec)

/-- 'laws.FnWholeWords', WHERE WHAT IT READS IS OF BULK AT MOST 1048576: true; the input reads as it did. -/
def fnWholeWordsUptoRow : OpenClaim := { program := "ytdmepjjepogddaagreat", sum := "d47ee71c3fd825fd31fd3f6085a3586a6ecdee1973f5ea65af7f34e246182eaf", func := "loop.example/netstack/laws.FnWholeWords", spec := "fnWholeWords", inPlace := ["slices.overlaps[loop.example/netstack/impl.Packet]", "slices.overlaps[loop.example/netstack/impl.Early]"], unfollowed := true, recurses := true, apart := false, narrowed := true }
def FnWholeWordsUptoSaid : Prop := fnWholeWordsUptoRow.holds Tryz.pinned (OpenSpec.upto fnWholeWordsSpec)

/-- 'laws.FnWholeSealed', WHERE WHAT IT READS IS OF BULK AT MOST 1048576: true; the input reads as it did. -/
def fnWholeSealedUptoRow : OpenClaim := { program := "ytdmepjjepogddaagreat", sum := "d47ee71c3fd825fd31fd3f6085a3586a6ecdee1973f5ea65af7f34e246182eaf", func := "loop.example/netstack/laws.FnWholeSealed", spec := "fnWholeSealed", inPlace := ["slices.overlaps[loop.example/netstack/impl.Packet]", "slices.overlaps[loop.example/netstack/impl.Early]"], unfollowed := true, recurses := true, apart := false, narrowed := true }
def FnWholeSealedUptoSaid : Prop := fnWholeSealedUptoRow.holds Tryz.pinned (OpenSpec.upto fnWholeSealedSpec)

end Rows
end Go.Proofs.YtdmepjjepogddaaGreat
