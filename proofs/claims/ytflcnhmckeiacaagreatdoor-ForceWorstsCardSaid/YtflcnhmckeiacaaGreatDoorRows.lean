/-
  NARROWER THAN 'FOR EVERY INPUT', by the rows' own cells (each row's printed sentence says how): ForceDesigns: laid · ForceWorsts: laid.
  DERIVED. THE GIVEN ROWS OF THIS SEAT. 2 by the template 'for every input the law returns true; each argument reads behind the call as it read before'; 0 by the template 'total and deterministic' (their statements: YtflcnhmckeiacaaGreatDoorTotals.lean).
  GIVEN WITH THE SEED: the statements are not yours to turn. If you find one false, say at which input.
  Laid BY PROGRAM, IN A SANDBOX (cutbox-rows.mjs): the forced cells as the released guide's own fill.sh prints them over the translation 7b853b7d70b9df60… (all of the seat's roots in one cut). By AI agents, Wed Nov 11 2026. No macro, syntax, notation, axiom, sorry.
-/
import Derived.Test.YtflcnhmckeiacaaGreatDoorChecked
import GoSem.Claim
import GoSem.ClaimJoined
import GoSem.ClaimMapViews
import Derived.JoinedTies
import Derived.KernelRfl
namespace Go.Proofs.YtflcnhmckeiacaaGreatDoor
/- THE CELL 'sum', in the pinned program and in every row, IS THE sha256 OF THE DUMP (.gsa) THAT YtflcnhmckeiacaaGreatDoorProg.lean LOADS. Nothing in Lean hashes anything: it is a label: what it is worth is what the hold of that sum in a sandbox is worth. -/
noncomputable def Tryz.pinned : Pinned := { name := "ytflcnhmckeiacaagreatdoor", sum := "7b853b7d70b9df600fb04ce5fe0d1dee03e0b76b92d94766ac56ec8f509d188d", checked := Tryz.checked }
namespace Rows
def none {H : Type} : Left H := { results := [], args := [] }

/- WHAT THE LISTED PACKAGE-LEVEL VARIABLES READ AS WHEN THE CALL BEGINS. Each datum BY PROGRAM (the guide's laid-datum.mjs) off the statement by which the dump's own 'gosem.cut.vars' lays the variable. In a bare row this is a premise. The card (YtflcnhmckeiacaaGreatDoorCards.lean) ties it to the program's text. -/
def laid_buchholz_force_kinds {H : Type} : DataW H := .iface "func table" (.agg [.agg [.iface "func" (.lit (.string [40, 98, 117, 99, 104, 104, 111, 108, 122, 47, 102, 111, 114, 99, 101, 46, 119, 105, 110, 100, 111, 119, 41, 46, 116, 104, 114, 117, 115, 116, 115])), .lit (.int .i64 0)], .agg [.iface "func" (.lit (.string [40, 98, 117, 99, 104, 104, 111, 108, 122, 47, 102, 111, 114, 99, 101, 46, 119, 105, 110, 100, 111, 119, 41, 46, 116, 104, 114, 117, 115, 116, 115])), .lit (.int .i64 1)], .agg [.iface "func" (.lit (.string [40, 98, 117, 99, 104, 104, 111, 108, 122, 47, 102, 111, 114, 99, 101, 46, 119, 105, 110, 100, 111, 119, 41, 46, 114, 97, 100, 105, 97, 108])), .lit (.int .i64 0)], .agg [.iface "func" (.lit (.string [40, 98, 117, 99, 104, 104, 111, 108, 122, 47, 102, 111, 114, 99, 101, 46, 119, 105, 110, 100, 111, 119, 41, 46, 114, 97, 100, 105, 97, 108])), .lit (.int .i64 1)]])

/-- 'buchholzlaw05.ForceDesigns': WHATEVER THE INPUT: true; the input reads as it did. -/
def forceDesignsSpec : ChangeSpec := { name := "forceDesigns", fn := fun _ => fun
  | [d1, d2] => { results := [.lit (.bool true)], args := [d1, d2] }
  | _ => none }
def forceDesignsRow : OpenClaim := { program := "ytflcnhmckeiacaagreatdoor", sum := "7b853b7d70b9df600fb04ce5fe0d1dee03e0b76b92d94766ac56ec8f509d188d", func := "buchholz/buchholzlaw05.ForceDesigns", spec := "forceDesigns", unfollowed := true, recurses := true, named := ["buchholz/force.kinds"], apart := false, laid := [("buchholz/force.kinds", laid_buchholz_force_kinds)] }
def ForceDesignsSaid : Prop := forceDesignsRow.holds Tryz.pinned (OpenSpec.ofChange forceDesignsSpec)

/-- ITS FALSE NEIGHBOUR: 'it returns false'. Refute it at one input. -/
def forceDesignsWrong : ChangeSpec := { name := "forceDesigns", fn := fun _ => fun
  | [d1, d2] => { results := [.lit (.bool false)], args := [d1, d2] }
  | _ => none }
def ForceDesignsWrongFalsely : Prop := forceDesignsRow.holds Tryz.pinned (OpenSpec.ofChange forceDesignsWrong)

/-- 'buchholzlaw05.ForceWorsts': WHATEVER THE INPUT: true; the input reads as it did. -/
def forceWorstsSpec : ChangeSpec := { name := "forceWorsts", fn := fun _ => fun
  | [d1, d2] => { results := [.lit (.bool true)], args := [d1, d2] }
  | _ => none }
def forceWorstsRow : OpenClaim := { program := "ytflcnhmckeiacaagreatdoor", sum := "7b853b7d70b9df600fb04ce5fe0d1dee03e0b76b92d94766ac56ec8f509d188d", func := "buchholz/buchholzlaw05.ForceWorsts", spec := "forceWorsts", unfollowed := true, recurses := true, named := ["buchholz/force.kinds"], apart := false, laid := [("buchholz/force.kinds", laid_buchholz_force_kinds)] }
def ForceWorstsSaid : Prop := forceWorstsRow.holds Tryz.pinned (OpenSpec.ofChange forceWorstsSpec)

/-- ITS FALSE NEIGHBOUR: 'it returns false'. Refute it at one input. -/
def forceWorstsWrong : ChangeSpec := { name := "forceWorsts", fn := fun _ => fun
  | [d1, d2] => { results := [.lit (.bool false)], args := [d1, d2] }
  | _ => none }
def ForceWorstsWrongFalsely : Prop := forceWorstsRow.holds Tryz.pinned (OpenSpec.ofChange forceWorstsWrong)

/- THE SECOND FORM. 'bulk': how many values and letters a reading holds, each counted each time it is reached (what is shared counts as often as it is met; a slice's spare places count too). A statement '..UptoSaid' is the law's where the arguments, and the package variables that the reading takes, are together of bulk at most 1048576: NARROWER than '..Said'. Prove '..Said' where nothing that the law and all that it calls make is longer than what came in: it says more and counts as full. Else prove '..UptoSaid'. A law counts once. -/
mutual
def uptoBulk {H : Type} : DataW H → Nat
  | .lit (.string bytes) => bytes.length + 1
  | .lit _ => 1
  | .nil => 1
  | .ptr d => uptoBulk d + 1
  | .slice elems spare => uptoBulkAll elems + uptoBulkAll spare + 1
  | .agg parts => uptoBulkAll parts + 1
  | .iface _ d => uptoBulk d + 1
  | .map entries => uptoBulkEntries entries + 1
  | .held _ => 1
def uptoBulkAll {H : Type} : List (DataW H) → Nat
  | [] => 0
  | d :: r => uptoBulk d + uptoBulkAll r
def uptoBulkEntries {H : Type} : List (Lit × DataW H) → Nat
  | [] => 0
  | x :: r => uptoBulkEntry x + uptoBulkEntries r
def uptoBulkEntry {H : Type} : Lit × DataW H → Nat
  | (.string bytes, d) => bytes.length + uptoBulk d + 1
  | (_, d) => uptoBulk d + 1
 end
def uptoSmall : (H : Type) → List (DataW H) → Bool := fun _ ds => decide (uptoBulkAll ds ≤ 1048576)
def OpenSpec.upto (s : _root_.Go.ChangeSpec) : _root_.Go.OpenSpec := { _root_.Go.OpenSpec.ofChange s with cond := some uptoSmall }

/-- 'buchholzlaw05.ForceDesigns', WHERE WHAT IT READS IS OF BULK AT MOST 1048576: true; the input reads as it did. -/
def forceDesignsUptoRow : OpenClaim := { program := "ytflcnhmckeiacaagreatdoor", sum := "7b853b7d70b9df600fb04ce5fe0d1dee03e0b76b92d94766ac56ec8f509d188d", func := "buchholz/buchholzlaw05.ForceDesigns", spec := "forceDesigns", unfollowed := true, recurses := true, named := ["buchholz/force.kinds"], apart := false, laid := [("buchholz/force.kinds", laid_buchholz_force_kinds)], narrowed := true }
def ForceDesignsUptoSaid : Prop := forceDesignsUptoRow.holds Tryz.pinned (OpenSpec.upto forceDesignsSpec)

/-- 'buchholzlaw05.ForceWorsts', WHERE WHAT IT READS IS OF BULK AT MOST 1048576: true; the input reads as it did. -/
def forceWorstsUptoRow : OpenClaim := { program := "ytflcnhmckeiacaagreatdoor", sum := "7b853b7d70b9df600fb04ce5fe0d1dee03e0b76b92d94766ac56ec8f509d188d", func := "buchholz/buchholzlaw05.ForceWorsts", spec := "forceWorsts", unfollowed := true, recurses := true, named := ["buchholz/force.kinds"], apart := false, laid := [("buchholz/force.kinds", laid_buchholz_force_kinds)], narrowed := true }
def ForceWorstsUptoSaid : Prop := forceWorstsUptoRow.holds Tryz.pinned (OpenSpec.upto forceWorstsSpec)

end Rows
end Go.Proofs.YtflcnhmckeiacaaGreatDoor
