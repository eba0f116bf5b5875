/-
  No cell of these rows narrows 'for every input' (looked for: loops, veiled, ifaces, maps, wideKeys, modest, calm, conditions, laid).
  DERIVED. THE GIVEN ROWS OF THIS SEAT. 2 by the template 'for every input the law returns true; each argument reads behind the call as it read before'; 0 by the template 'total and deterministic' (their statements: YtlbmcaljkjbjpaaTotals.lean).
  GIVEN WITH THE SEED: the statements are not yours to turn. If you find one false, say at which input.
  Laid BY PROGRAM, IN A SANDBOX (cutbox-rows.mjs): the forced cells as the released guide's own fill.sh prints them over the translation 1cb27612ee41c5cb… (all of the seat's roots in one cut). By AI agents, Wed Nov 11 2026. No macro, syntax, notation, axiom, sorry.
-/
import Derived.Test.YtlbmcaljkjbjpaaChecked
import GoSem.Claim
import GoSem.ClaimJoined
import GoSem.ClaimMapViews
import Derived.JoinedTies
import Derived.KernelRfl
namespace Go.Proofs.Ytlbmcaljkjbjpaa
/- THE CELL 'sum', in the pinned program and in every row, IS THE sha256 OF THE DUMP (.gsa) THAT YtlbmcaljkjbjpaaProg.lean LOADS. Nothing in Lean hashes anything: it is a label: what it is worth is what the hold of that sum in a sandbox is worth. -/
noncomputable def Try.pinned : Pinned := { name := "ytlbmcaljkjbjpaa", sum := "1cb27612ee41c5cb7c670793b3112d4f753d2675c2d8d1385d9e6b1b6c343331", checked := Try.checked }
namespace Rows
def none {H : Type} : Left H := { results := [], args := [] }

/-- 'buchholzlaw05.ForceOthers': WHATEVER THE INPUT: true; the input reads as it did. -/
def forceOthersSpec : ChangeSpec := { name := "forceOthers", fn := fun _ => fun
  | [d1, d2, d3] => { results := [.lit (.bool true)], args := [d1, d2, d3] }
  | _ => none }
def forceOthersRow : OpenClaim := { program := "ytlbmcaljkjbjpaa", sum := "1cb27612ee41c5cb7c670793b3112d4f753d2675c2d8d1385d9e6b1b6c343331", func := "buchholz/buchholzlaw05.ForceOthers", spec := "forceOthers", unfollowed := true, recurses := true, apart := false }
def ForceOthersSaid : Prop := forceOthersRow.holds Try.pinned (OpenSpec.ofChange forceOthersSpec)

/-- ITS FALSE NEIGHBOUR: 'it returns false'. Refute it at one input. -/
def forceOthersWrong : ChangeSpec := { name := "forceOthers", fn := fun _ => fun
  | [d1, d2, d3] => { results := [.lit (.bool false)], args := [d1, d2, d3] }
  | _ => none }
def ForceOthersWrongFalsely : Prop := forceOthersRow.holds Try.pinned (OpenSpec.ofChange forceOthersWrong)

/-- 'buchholzlaw05.ForceMirrored': WHATEVER THE INPUT: true; the input reads as it did. -/
def forceMirroredSpec : ChangeSpec := { name := "forceMirrored", fn := fun _ => fun
  | [d1, d2] => { results := [.lit (.bool true)], args := [d1, d2] }
  | _ => none }
def forceMirroredRow : OpenClaim := { program := "ytlbmcaljkjbjpaa", sum := "1cb27612ee41c5cb7c670793b3112d4f753d2675c2d8d1385d9e6b1b6c343331", func := "buchholz/buchholzlaw05.ForceMirrored", spec := "forceMirrored", unfollowed := true, recurses := true, apart := false }
def ForceMirroredSaid : Prop := forceMirroredRow.holds Try.pinned (OpenSpec.ofChange forceMirroredSpec)

/-- ITS FALSE NEIGHBOUR: 'it returns false'. Refute it at one input. -/
def forceMirroredWrong : ChangeSpec := { name := "forceMirrored", fn := fun _ => fun
  | [d1, d2] => { results := [.lit (.bool false)], args := [d1, d2] }
  | _ => none }
def ForceMirroredWrongFalsely : Prop := forceMirroredRow.holds Try.pinned (OpenSpec.ofChange forceMirroredWrong)

/- THE SECOND FORM. 'bulk': how many values and letters a reading holds, each counted each time it is reached (what is shared counts as often as it is met; a slice's spare places count too). A statement '..UptoSaid' is the law's where the arguments, and the package variables that the reading takes, are together of bulk at most 1048576: NARROWER than '..Said'. Prove '..Said' where nothing that the law and all that it calls make is longer than what came in: it says more and counts as full. Else prove '..UptoSaid'. A law counts once. -/
mutual
def uptoBulk {H : Type} : DataW H → Nat
  | .lit (.string bytes) => bytes.length + 1
  | .lit _ => 1
  | .nil => 1
  | .ptr d => uptoBulk d + 1
  | .slice elems spare => uptoBulkAll elems + uptoBulkAll spare + 1
  | .agg parts => uptoBulkAll parts + 1
  | .iface _ d => uptoBulk d + 1
  | .map entries => uptoBulkEntries entries + 1
  | .held _ => 1
def uptoBulkAll {H : Type} : List (DataW H) → Nat
  | [] => 0
  | d :: r => uptoBulk d + uptoBulkAll r
def uptoBulkEntries {H : Type} : List (Lit × DataW H) → Nat
  | [] => 0
  | x :: r => uptoBulkEntry x + uptoBulkEntries r
def uptoBulkEntry {H : Type} : Lit × DataW H → Nat
  | (.string bytes, d) => bytes.length + uptoBulk d + 1
  | (_, d) => uptoBulk d + 1
 end
def uptoSmall : (H : Type) → List (DataW H) → Bool := fun _ ds => decide (uptoBulkAll ds ≤ 1048576)
def OpenSpec.upto (s : _root_.Go.ChangeSpec) : _root_.Go.OpenSpec := { _root_.Go.OpenSpec.ofChange s with cond := some uptoSmall }

/-- 'buchholzlaw05.ForceOthers', WHERE WHAT IT READS IS OF BULK AT MOST 1048576: true; the input reads as it did. -/
def forceOthersUptoRow : OpenClaim := { program := "ytlbmcaljkjbjpaa", sum := "1cb27612ee41c5cb7c670793b3112d4f753d2675c2d8d1385d9e6b1b6c343331", func := "buchholz/buchholzlaw05.ForceOthers", spec := "forceOthers", unfollowed := true, recurses := true, apart := false, narrowed := true }
def ForceOthersUptoSaid : Prop := forceOthersUptoRow.holds Try.pinned (OpenSpec.upto forceOthersSpec)

/-- 'buchholzlaw05.ForceMirrored', WHERE WHAT IT READS IS OF BULK AT MOST 1048576: true; the input reads as it did. -/
def forceMirroredUptoRow : OpenClaim := { program := "ytlbmcaljkjbjpaa", sum := "1cb27612ee41c5cb7c670793b3112d4f753d2675c2d8d1385d9e6b1b6c343331", func := "buchholz/buchholzlaw05.ForceMirrored", spec := "forceMirrored", unfollowed := true, recurses := true, apart := false, narrowed := true }
def ForceMirroredUptoSaid : Prop := forceMirroredUptoRow.holds Try.pinned (OpenSpec.upto forceMirroredSpec)

end Rows
end Go.Proofs.Ytlbmcaljkjbjpaa
