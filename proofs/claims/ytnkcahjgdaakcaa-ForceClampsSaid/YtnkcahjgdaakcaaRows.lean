/-
  No cell of these rows narrows 'for every input' (looked for: loops, veiled, ifaces, maps, wideKeys, modest, calm, conditions, laid).
  DERIVED. THE GIVEN ROWS OF THIS SEAT. 6 by the template 'for every input the law returns true; each argument reads behind the call as it read before'; 0 by the template 'total and deterministic' (their statements: YtnkcahjgdaakcaaTotals.lean).
  GIVEN WITH THE SEED: the statements are not yours to turn. If you find one false, say at which input.
  Laid BY PROGRAM, IN A SANDBOX (cutbox-rows.mjs): the forced cells as the released guide's own fill.sh prints them over the translation 7c4be58efa6d1764… (all of the seat's roots in one cut). By AI agents, Wed Nov 11 2026. No macro, syntax, notation, axiom, sorry.
-/
import Derived.Test.YtnkcahjgdaakcaaChecked
import GoSem.Claim
import GoSem.ClaimJoined
import GoSem.ClaimMapViews
import Derived.JoinedTies
import Derived.KernelRfl
namespace Go.Proofs.Ytnkcahjgdaakcaa
/- THE CELL 'sum', in the pinned program and in every row, IS THE sha256 OF THE DUMP (.gsa) THAT YtnkcahjgdaakcaaProg.lean LOADS. Nothing in Lean hashes anything: it is a label: what it is worth is what the hold of that sum in a sandbox is worth. -/
noncomputable def Try.pinned : Pinned := { name := "ytnkcahjgdaakcaa", sum := "7c4be58efa6d17646da1e58259b3593152bb73f8ed184e37e154f234ee4d7fb1", checked := Try.checked }
namespace Rows
def none {H : Type} : Left H := { results := [], args := [] }

/-- 'buchholzlaw05.ForceCurrents': WHATEVER THE INPUT: true; the input reads as it did. -/
def forceCurrentsSpec : ChangeSpec := { name := "forceCurrents", fn := fun _ => fun
  | [d1, d2, d3] => { results := [.lit (.bool true)], args := [d1, d2, d3] }
  | _ => none }
def forceCurrentsRow : OpenClaim := { program := "ytnkcahjgdaakcaa", sum := "7c4be58efa6d17646da1e58259b3593152bb73f8ed184e37e154f234ee4d7fb1", func := "buchholz/buchholzlaw05.ForceCurrents", spec := "forceCurrents", unfollowed := true, recurses := true, apart := false }
def ForceCurrentsSaid : Prop := forceCurrentsRow.holds Try.pinned (OpenSpec.ofChange forceCurrentsSpec)

/-- ITS FALSE NEIGHBOUR: 'it returns false'. Refute it at one input. -/
def forceCurrentsWrong : ChangeSpec := { name := "forceCurrents", fn := fun _ => fun
  | [d1, d2, d3] => { results := [.lit (.bool false)], args := [d1, d2, d3] }
  | _ => none }
def ForceCurrentsWrongFalsely : Prop := forceCurrentsRow.holds Try.pinned (OpenSpec.ofChange forceCurrentsWrong)

/-- 'buchholzlaw05.ForceStronger': WHATEVER THE INPUT: true; the input reads as it did. -/
def forceStrongerSpec : ChangeSpec := { name := "forceStronger", fn := fun _ => fun
  | [d1, d2, d3] => { results := [.lit (.bool true)], args := [d1, d2, d3] }
  | _ => none }
def forceStrongerRow : OpenClaim := { program := "ytnkcahjgdaakcaa", sum := "7c4be58efa6d17646da1e58259b3593152bb73f8ed184e37e154f234ee4d7fb1", func := "buchholz/buchholzlaw05.ForceStronger", spec := "forceStronger", unfollowed := true, recurses := true, apart := false }
def ForceStrongerSaid : Prop := forceStrongerRow.holds Try.pinned (OpenSpec.ofChange forceStrongerSpec)

/-- ITS FALSE NEIGHBOUR: 'it returns false'. Refute it at one input. -/
def forceStrongerWrong : ChangeSpec := { name := "forceStronger", fn := fun _ => fun
  | [d1, d2, d3] => { results := [.lit (.bool false)], args := [d1, d2, d3] }
  | _ => none }
def ForceStrongerWrongFalsely : Prop := forceStrongerRow.holds Try.pinned (OpenSpec.ofChange forceStrongerWrong)

/-- 'buchholzlaw05.ForceClosed': WHATEVER THE INPUT: true; the input reads as it did. -/
def forceClosedSpec : ChangeSpec := { name := "forceClosed", fn := fun _ => fun
  | [d] => { results := [.lit (.bool true)], args := [d] }
  | _ => none }
def forceClosedRow : OpenClaim := { program := "ytnkcahjgdaakcaa", sum := "7c4be58efa6d17646da1e58259b3593152bb73f8ed184e37e154f234ee4d7fb1", func := "buchholz/buchholzlaw05.ForceClosed", spec := "forceClosed", unfollowed := true, recurses := true, apart := false }
def ForceClosedSaid : Prop := forceClosedRow.holds Try.pinned (OpenSpec.ofChange forceClosedSpec)

/-- ITS FALSE NEIGHBOUR: 'it returns false'. Refute it at one input. -/
def forceClosedWrong : ChangeSpec := { name := "forceClosed", fn := fun _ => fun
  | [d] => { results := [.lit (.bool false)], args := [d] }
  | _ => none }
def ForceClosedWrongFalsely : Prop := forceClosedRow.holds Try.pinned (OpenSpec.ofChange forceClosedWrong)

/-- 'buchholzlaw05.ForceClamps': WHATEVER THE INPUT: true; the input reads as it did. -/
def forceClampsSpec : ChangeSpec := { name := "forceClamps", fn := fun _ => fun
  | [d1, d2, d3] => { results := [.lit (.bool true)], args := [d1, d2, d3] }
  | _ => none }
def forceClampsRow : OpenClaim := { program := "ytnkcahjgdaakcaa", sum := "7c4be58efa6d17646da1e58259b3593152bb73f8ed184e37e154f234ee4d7fb1", func := "buchholz/buchholzlaw05.ForceClamps", spec := "forceClamps", unfollowed := true, recurses := true, apart := false }
def ForceClampsSaid : Prop := forceClampsRow.holds Try.pinned (OpenSpec.ofChange forceClampsSpec)

/-- ITS FALSE NEIGHBOUR: 'it returns false'. Refute it at one input. -/
def forceClampsWrong : ChangeSpec := { name := "forceClamps", fn := fun _ => fun
  | [d1, d2, d3] => { results := [.lit (.bool false)], args := [d1, d2, d3] }
  | _ => none }
def ForceClampsWrongFalsely : Prop := forceClampsRow.holds Try.pinned (OpenSpec.ofChange forceClampsWrong)

/-- 'buchholzlaw05.ForceOthers': WHATEVER THE INPUT: true; the input reads as it did. -/
def forceOthersSpec : ChangeSpec := { name := "forceOthers", fn := fun _ => fun
  | [d1, d2, d3] => { results := [.lit (.bool true)], args := [d1, d2, d3] }
  | _ => none }
def forceOthersRow : OpenClaim := { program := "ytnkcahjgdaakcaa", sum := "7c4be58efa6d17646da1e58259b3593152bb73f8ed184e37e154f234ee4d7fb1", func := "buchholz/buchholzlaw05.ForceOthers", spec := "forceOthers", unfollowed := true, recurses := true, apart := false }
def ForceOthersSaid : Prop := forceOthersRow.holds Try.pinned (OpenSpec.ofChange forceOthersSpec)

/-- ITS FALSE NEIGHBOUR: 'it returns false'. Refute it at one input. -/
def forceOthersWrong : ChangeSpec := { name := "forceOthers", fn := fun _ => fun
  | [d1, d2, d3] => { results := [.lit (.bool false)], args := [d1, d2, d3] }
  | _ => none }
def ForceOthersWrongFalsely : Prop := forceOthersRow.holds Try.pinned (OpenSpec.ofChange forceOthersWrong)

/-- 'buchholzlaw05.ForceMirrored': WHATEVER THE INPUT: true; the input reads as it did. -/
def forceMirroredSpec : ChangeSpec := { name := "forceMirrored", fn := fun _ => fun
  | [d1, d2] => { results := [.lit (.bool true)], args := [d1, d2] }
  | _ => none }
def forceMirroredRow : OpenClaim := { program := "ytnkcahjgdaakcaa", sum := "7c4be58efa6d17646da1e58259b3593152bb73f8ed184e37e154f234ee4d7fb1", func := "buchholz/buchholzlaw05.ForceMirrored", spec := "forceMirrored", unfollowed := true, recurses := true, apart := false }
def ForceMirroredSaid : Prop := forceMirroredRow.holds Try.pinned (OpenSpec.ofChange forceMirroredSpec)

/-- ITS FALSE NEIGHBOUR: 'it returns false'. Refute it at one input. -/
def forceMirroredWrong : ChangeSpec := { name := "forceMirrored", fn := fun _ => fun
  | [d1, d2] => { results := [.lit (.bool false)], args := [d1, d2] }
  | _ => none }
def ForceMirroredWrongFalsely : Prop := forceMirroredRow.holds Try.pinned (OpenSpec.ofChange forceMirroredWrong)

/- THE SECOND FORM. 'bulk': how many values and letters a reading holds, each counted each time it is reached (what is shared counts as often as it is met; a slice's spare places count too). A statement '..UptoSaid' is the law's where the arguments, and the package variables that the reading takes, are together of bulk at most 1048576: NARROWER than '..Said'. Prove '..Said' where nothing that the law and all that it calls make is longer than what came in: it says more and counts as full. Else prove '..UptoSaid'. A law counts once. -/
mutual
def uptoBulk {H : Type} : DataW H → Nat
  | .lit (.string bytes) => bytes.length + 1
  | .lit _ => 1
  | .nil => 1
  | .ptr d => uptoBulk d + 1
  | .slice elems spare => uptoBulkAll elems + uptoBulkAll spare + 1
  | .agg parts => uptoBulkAll parts + 1
  | .iface _ d => uptoBulk d + 1
  | .map entries => uptoBulkEntries entries + 1
  | .held _ => 1
def uptoBulkAll {H : Type} : List (DataW H) → Nat
  | [] => 0
  | d :: r => uptoBulk d + uptoBulkAll r
def uptoBulkEntries {H : Type} : List (Lit × DataW H) → Nat
  | [] => 0
  | x :: r => uptoBulkEntry x + uptoBulkEntries r
def uptoBulkEntry {H : Type} : Lit × DataW H → Nat
  | (.string bytes, d) => bytes.length + uptoBulk d + 1
  | (_, d) => uptoBulk d + 1
 end
def uptoSmall : (H : Type) → List (DataW H) → Bool := fun _ ds => decide (uptoBulkAll ds ≤ 1048576)
def OpenSpec.upto (s : _root_.Go.ChangeSpec) : _root_.Go.OpenSpec := { _root_.Go.OpenSpec.ofChange s with cond := some uptoSmall }

/-- 'buchholzlaw05.ForceCurrents', WHERE WHAT IT READS IS OF BULK AT MOST 1048576: true; the input reads as it did. -/
def forceCurrentsUptoRow : OpenClaim := { program := "ytnkcahjgdaakcaa", sum := "7c4be58efa6d17646da1e58259b3593152bb73f8ed184e37e154f234ee4d7fb1", func := "buchholz/buchholzlaw05.ForceCurrents", spec := "forceCurrents", unfollowed := true, recurses := true, apart := false, narrowed := true }
def ForceCurrentsUptoSaid : Prop := forceCurrentsUptoRow.holds Try.pinned (OpenSpec.upto forceCurrentsSpec)

/-- 'buchholzlaw05.ForceStronger', WHERE WHAT IT READS IS OF BULK AT MOST 1048576: true; the input reads as it did. -/
def forceStrongerUptoRow : OpenClaim := { program := "ytnkcahjgdaakcaa", sum := "7c4be58efa6d17646da1e58259b3593152bb73f8ed184e37e154f234ee4d7fb1", func := "buchholz/buchholzlaw05.ForceStronger", spec := "forceStronger", unfollowed := true, recurses := true, apart := false, narrowed := true }
def ForceStrongerUptoSaid : Prop := forceStrongerUptoRow.holds Try.pinned (OpenSpec.upto forceStrongerSpec)

/-- 'buchholzlaw05.ForceClosed', WHERE WHAT IT READS IS OF BULK AT MOST 1048576: true; the input reads as it did. -/
def forceClosedUptoRow : OpenClaim := { program := "ytnkcahjgdaakcaa", sum := "7c4be58efa6d17646da1e58259b3593152bb73f8ed184e37e154f234ee4d7fb1", func := "buchholz/buchholzlaw05.ForceClosed", spec := "forceClosed", unfollowed := true, recurses := true, apart := false, narrowed := true }
def ForceClosedUptoSaid : Prop := forceClosedUptoRow.holds Try.pinned (OpenSpec.upto forceClosedSpec)

/-- 'buchholzlaw05.ForceClamps', WHERE WHAT IT READS IS OF BULK AT MOST 1048576: true; the input reads as it did. -/
def forceClampsUptoRow : OpenClaim := { program := "ytnkcahjgdaakcaa", sum := "7c4be58efa6d17646da1e58259b3593152bb73f8ed184e37e154f234ee4d7fb1", func := "buchholz/buchholzlaw05.ForceClamps", spec := "forceClamps", unfollowed := true, recurses := true, apart := false, narrowed := true }
def ForceClampsUptoSaid : Prop := forceClampsUptoRow.holds Try.pinned (OpenSpec.upto forceClampsSpec)

/-- 'buchholzlaw05.ForceOthers', WHERE WHAT IT READS IS OF BULK AT MOST 1048576: true; the input reads as it did. -/
def forceOthersUptoRow : OpenClaim := { program := "ytnkcahjgdaakcaa", sum := "7c4be58efa6d17646da1e58259b3593152bb73f8ed184e37e154f234ee4d7fb1", func := "buchholz/buchholzlaw05.ForceOthers", spec := "forceOthers", unfollowed := true, recurses := true, apart := false, narrowed := true }
def ForceOthersUptoSaid : Prop := forceOthersUptoRow.holds Try.pinned (OpenSpec.upto forceOthersSpec)

/-- 'buchholzlaw05.ForceMirrored', WHERE WHAT IT READS IS OF BULK AT MOST 1048576: true; the input reads as it did. -/
def forceMirroredUptoRow : OpenClaim := { program := "ytnkcahjgdaakcaa", sum := "7c4be58efa6d17646da1e58259b3593152bb73f8ed184e37e154f234ee4d7fb1", func := "buchholz/buchholzlaw05.ForceMirrored", spec := "forceMirrored", unfollowed := true, recurses := true, apart := false, narrowed := true }
def ForceMirroredUptoSaid : Prop := forceMirroredUptoRow.holds Try.pinned (OpenSpec.upto forceMirroredSpec)

end Rows
end Go.Proofs.Ytnkcahjgdaakcaa
