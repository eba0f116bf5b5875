/-
  DERIVED. GIVEN WITH THE SEED: THE CARDS: each row of YtflcnhmckeiacaaGreatDoorRows.lean that lists a variable, with what it lists TIED to the program's text (the seventh form; the later family's looks); each row that meets fmt, with fmt's text TOLD by the authors' own Lean function (tested against real Go, not proved from fmt's source: count such statements apart). THE CARD IS WHAT COUNTS. Prove the row's statement (the work); the ties are given (YtflcnhmckeiacaaGreatDoorTie.lean); close each card by the builder's one call (the guide's Derived/Test/ToyasCard.lean, 'card_holds'). Laid BY PROGRAM, IN A SANDBOX (cutbox-door.mjs). By AI agents, Wed Nov 11 2026. No macro, syntax, notation, axiom, sorry.
-/
import Derived.Test.YtflcnhmckeiacaaGreatDoorRows
import GoSem.ClaimSeven
namespace Go.Proofs.YtflcnhmckeiacaaGreatDoor
namespace Rows

/-- THE TIED CARD OF 'buchholzlaw05.ForceDesigns'. -/
def forceDesignsCard : Claim7 := { stood := { row := forceDesignsRow, standIns := [], harness := (true, "c2a344c779d958868de91047bfad5039b9e163fd7652b462b4dac5545462d88f"), looks := false }, kinds := [], alts := [], laidByText := true, laidKinds := [.funcs], laidTests := true, laidLooks := .later }
def ForceDesignsCardSaid : Prop := Claim7.holds Tryz.pinned (.plain (OpenSpec.ofChange forceDesignsSpec)) forceDesignsCard

/-- THE TIED CARD OF 'buchholzlaw05.ForceWorsts'. -/
def forceWorstsCard : Claim7 := { stood := { row := forceWorstsRow, standIns := [], harness := (true, "c2a344c779d958868de91047bfad5039b9e163fd7652b462b4dac5545462d88f"), looks := false }, kinds := [], alts := [], laidByText := true, laidKinds := [.funcs], laidTests := true, laidLooks := .later }
def ForceWorstsCardSaid : Prop := Claim7.holds Tryz.pinned (.plain (OpenSpec.ofChange forceWorstsSpec)) forceWorstsCard

/-- THE SECOND FORM's CARD OF 'buchholzlaw05.ForceDesigns'. -/
def forceDesignsUptoCard : Claim7 := { stood := { row := forceDesignsUptoRow, standIns := [], harness := (true, "c2a344c779d958868de91047bfad5039b9e163fd7652b462b4dac5545462d88f"), looks := false }, kinds := [], alts := [], laidByText := true, laidKinds := [.funcs], laidTests := true, laidLooks := .later }
def ForceDesignsUptoCardSaid : Prop := Claim7.holds Tryz.pinned (.plain (OpenSpec.upto forceDesignsSpec)) forceDesignsUptoCard

/-- THE SECOND FORM's CARD OF 'buchholzlaw05.ForceWorsts'. -/
def forceWorstsUptoCard : Claim7 := { stood := { row := forceWorstsUptoRow, standIns := [], harness := (true, "c2a344c779d958868de91047bfad5039b9e163fd7652b462b4dac5545462d88f"), looks := false }, kinds := [], alts := [], laidByText := true, laidKinds := [.funcs], laidTests := true, laidLooks := .later }
def ForceWorstsUptoCardSaid : Prop := Claim7.holds Tryz.pinned (.plain (OpenSpec.upto forceWorstsSpec)) forceWorstsUptoCard
end Rows
end Go.Proofs.YtflcnhmckeiacaaGreatDoor
