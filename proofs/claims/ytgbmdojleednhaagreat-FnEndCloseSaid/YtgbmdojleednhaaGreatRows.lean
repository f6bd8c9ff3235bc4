/-
  No cell of these rows narrows 'for every input' (looked for: loops, veiled, ifaces, maps, wideKeys, modest, calm, conditions, laid).
  DERIVED. THE GIVEN ROWS OF THIS SEAT. 3 by the template 'for every input the law returns true; each argument reads behind the call as it read before'; 0 by the template 'total and deterministic' (their statements: YtgbmdojleednhaaGreatTotals.lean).
  GIVEN WITH THE SEED: the statements are not yours to turn. If you find one false, say at which input.
  Laid BY PROGRAM, IN A SANDBOX (cutbox-rows.mjs): the forced cells as the released guide's own fill.sh prints them over the translation 2214e861c2d57b1f… (all of the seat's roots in one cut). By AI agents, Wed Nov 11 2026. No macro, syntax, notation, axiom, sorry.
-/
import Derived.Test.YtgbmdojleednhaaGreatChecked
import GoSem.Claim
import GoSem.ClaimJoined
import GoSem.ClaimMapViews
import Derived.JoinedTies
import Derived.KernelRfl
namespace Go.Proofs.YtgbmdojleednhaaGreat
/- THE CELL 'sum', in the pinned program and in every row, IS THE sha256 OF THE DUMP (.gsa) THAT YtgbmdojleednhaaGreatProg.lean LOADS. Nothing in Lean hashes anything: it is a label: what it is worth is what the hold of that sum in a sandbox is worth. -/
noncomputable def Tryz.pinned : Pinned := { name := "ytgbmdojleednhaagreat", sum := "2214e861c2d57b1f3e5e3d7a79f0af14c16a98cd425e1d0386fbf4949a506759", checked := Tryz.checked }
namespace Rows
def none {H : Type} : Left H := { results := [], args := [] }

/-- 'laws.FnEndConnect': WHATEVER THE INPUT: true; the input reads as it did. -/
def fnEndConnectSpec : ChangeSpec := { name := "fnEndConnect", fn := fun _ => fun
  | [d] => { results := [.lit (.bool true)], args := [d] }
  | _ => none }
def fnEndConnectRow : OpenClaim := { program := "ytgbmdojleednhaagreat", sum := "2214e861c2d57b1f3e5e3d7a79f0af14c16a98cd425e1d0386fbf4949a506759", func := "loop.example/netstack/laws.FnEndConnect", spec := "fnEndConnect", unfollowed := true, recurses := true, apart := false }
def FnEndConnectSaid : Prop := fnEndConnectRow.holds Tryz.pinned (OpenSpec.ofChange fnEndConnectSpec)

/-- ITS FALSE NEIGHBOUR: 'it returns false'. Refute it at one input. -/
def fnEndConnectWrong : ChangeSpec := { name := "fnEndConnect", fn := fun _ => fun
  | [d] => { results := [.lit (.bool false)], args := [d] }
  | _ => none }
def FnEndConnectWrongFalsely : Prop := fnEndConnectRow.holds Tryz.pinned (OpenSpec.ofChange fnEndConnectWrong)

/-- 'laws.FnEndWrite': WHATEVER THE INPUT: true; the input reads as it did. -/
def fnEndWriteSpec : ChangeSpec := { name := "fnEndWrite", fn := fun _ => fun
  | [d] => { results := [.lit (.bool true)], args := [d] }
  | _ => none }
def fnEndWriteRow : OpenClaim := { program := "ytgbmdojleednhaagreat", sum := "2214e861c2d57b1f3e5e3d7a79f0af14c16a98cd425e1d0386fbf4949a506759", func := "loop.example/netstack/laws.FnEndWrite", spec := "fnEndWrite", unfollowed := true, recurses := true, apart := false }
def FnEndWriteSaid : Prop := fnEndWriteRow.holds Tryz.pinned (OpenSpec.ofChange fnEndWriteSpec)

/-- ITS FALSE NEIGHBOUR: 'it returns false'. Refute it at one input. -/
def fnEndWriteWrong : ChangeSpec := { name := "fnEndWrite", fn := fun _ => fun
  | [d] => { results := [.lit (.bool false)], args := [d] }
  | _ => none }
def FnEndWriteWrongFalsely : Prop := fnEndWriteRow.holds Tryz.pinned (OpenSpec.ofChange fnEndWriteWrong)

/-- 'laws.FnEndClose': WHATEVER THE INPUT: true; the input reads as it did. -/
def fnEndCloseSpec : ChangeSpec := { name := "fnEndClose", fn := fun _ => fun
  | [d] => { results := [.lit (.bool true)], args := [d] }
  | _ => none }
def fnEndCloseRow : OpenClaim := { program := "ytgbmdojleednhaagreat", sum := "2214e861c2d57b1f3e5e3d7a79f0af14c16a98cd425e1d0386fbf4949a506759", func := "loop.example/netstack/laws.FnEndClose", spec := "fnEndClose", unfollowed := true, recurses := true, apart := false }
def FnEndCloseSaid : Prop := fnEndCloseRow.holds Tryz.pinned (OpenSpec.ofChange fnEndCloseSpec)

/-- ITS FALSE NEIGHBOUR: 'it returns false'. Refute it at one input. -/
def fnEndCloseWrong : ChangeSpec := { name := "fnEndClose", fn := fun _ => fun
  | [d] => { results := [.lit (.bool false)], args := [d] }
  | _ => none }
def FnEndCloseWrongFalsely : Prop := fnEndCloseRow.holds Tryz.pinned (OpenSpec.ofChange fnEndCloseWrong)

/- THE SECOND FORM. 'bulk': how many values and letters a reading holds, each counted each time it is reached (what is shared counts as often as it is met; a slice's spare places count too). A statement '..UptoSaid' is the law's where the arguments, and the package variables that the reading takes, are together of bulk at most 1048576: NARROWER than '..Said'. Prove '..Said' where nothing that the law and all that it calls make is longer than what came in: it says more and counts as full. Else prove '..UptoSaid'. A law counts once. -/
mutual
def uptoBulk {H : Type} : DataW H → Nat
  | .lit (.string bytes) => bytes.length + 1
  | .lit _ => 1
  | .nil => 1
  | .ptr d => uptoBulk d + 1
  | .slice elems spare => uptoBulkAll elems + uptoBulkAll spare + 1
  | .agg parts => uptoBulkAll parts + 1
  | .iface _ d => uptoBulk d + 1
  | .map entries => uptoBulkEntries entries + 1
  | .held _ => 1
def uptoBulkAll {H : Type} : List (DataW H) → Nat
  | [] => 0
  | d :: r => uptoBulk d + uptoBulkAll r
def uptoBulkEntries {H : Type} : List (Lit × DataW H) → Nat
  | [] => 0
  | x :: r => uptoBulkEntry x + uptoBulkEntries r
def uptoBulkEntry {H : Type} : Lit × DataW H → Nat
  | (.string bytes, d) => bytes.length + uptoBulk d + 1
  | (_, d) => uptoBulk d + 1
 end
def uptoSmall : (H : Type) → List (DataW H) → Bool := fun _ ds => decide (uptoBulkAll ds ≤ 1048576)
def OpenSpec.upto (s : _root_.Go.ChangeSpec) : _root_.Go.OpenSpec := { _root_.Go.OpenSpec.ofChange s with cond := some uptoSmall }

/-- 'laws.FnEndConnect', WHERE WHAT IT READS IS OF BULK AT MOST 1048576: true; the input reads as it did. -/
def fnEndConnectUptoRow : OpenClaim := { program := "ytgbmdojleednhaagreat", sum := "2214e861c2d57b1f3e5e3d7a79f0af14c16a98cd425e1d0386fbf4949a506759", func := "loop.example/netstack/laws.FnEndConnect", spec := "fnEndConnect", unfollowed := true, recurses := true, apart := false, narrowed := true }
def FnEndConnectUptoSaid : Prop := fnEndConnectUptoRow.holds Tryz.pinned (OpenSpec.upto fnEndConnectSpec)

/-- 'laws.FnEndWrite', WHERE WHAT IT READS IS OF BULK AT MOST 1048576: true; the input reads as it did. -/
def fnEndWriteUptoRow : OpenClaim := { program := "ytgbmdojleednhaagreat", sum := "2214e861c2d57b1f3e5e3d7a79f0af14c16a98cd425e1d0386fbf4949a506759", func := "loop.example/netstack/laws.FnEndWrite", spec := "fnEndWrite", unfollowed := true, recurses := true, apart := false, narrowed := true }
def FnEndWriteUptoSaid : Prop := fnEndWriteUptoRow.holds Tryz.pinned (OpenSpec.upto fnEndWriteSpec)

/-- 'laws.FnEndClose', WHERE WHAT IT READS IS OF BULK AT MOST 1048576: true; the input reads as it did. -/
def fnEndCloseUptoRow : OpenClaim := { program := "ytgbmdojleednhaagreat", sum := "2214e861c2d57b1f3e5e3d7a79f0af14c16a98cd425e1d0386fbf4949a506759", func := "loop.example/netstack/laws.FnEndClose", spec := "fnEndClose", unfollowed := true, recurses := true, apart := false, narrowed := true }
def FnEndCloseUptoSaid : Prop := fnEndCloseUptoRow.holds Tryz.pinned (OpenSpec.upto fnEndCloseSpec)

end Rows
end Go.Proofs.YtgbmdojleednhaaGreat
