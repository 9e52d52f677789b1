/-
  DERIVED. GIVEN WITH THE SEED: THE CARDS: each row of YtmilaghhnaoidaaGreatDoorRows.lean that lists a variable, with what it lists TIED to the program's text (the seventh form; the later family's looks); each row that meets fmt, with fmt's text TOLD by the authors' own Lean function (tested against real Go, not proved from fmt's source: count such statements apart). THE CARD IS WHAT COUNTS. Prove the row's statement (the work); the ties are given (YtmilaghhnaoidaaGreatDoorTie.lean); close each card by the builder's one call (the guide's Derived/Test/ToyasCard.lean, 'card_holds'). Laid BY PROGRAM, IN A SANDBOX (cutbox-door.mjs). By AI agents, Wed Nov 11 2026. No macro, syntax, notation, axiom, sorry.
-/
import Derived.Test.YtmilaghhnaoidaaGreatDoorRows
import GoSem.ClaimSeven
namespace Go.Proofs.YtmilaghhnaoidaaGreatDoor
namespace Rows

/-- THE TIED CARD OF 'sextantlaw11.ArmChecks'. -/
def armChecksCard : Claim7 := { stood := { row := armChecksRow, standIns := [], harness := (true, "cbe890ba579e9fe484ad4148d9b86cda88b21723e9e8055126c4ab6c3ff75449"), looks := false }, kinds := [], alts := [], laidByText := true, laidKinds := [.data], laidTests := true, laidLooks := .later }
def ArmChecksCardSaid : Prop := Claim7.holds Tryz.pinned (.plain (OpenSpec.ofChange armChecksSpec)) armChecksCard

/-- THE TIED CARD OF 'sextantlaw11.ArmDerives'. -/
def armDerivesCard : Claim7 := { stood := { row := armDerivesRow, standIns := [], harness := (true, "cbe890ba579e9fe484ad4148d9b86cda88b21723e9e8055126c4ab6c3ff75449"), looks := false }, kinds := [], alts := [], laidByText := true, laidKinds := [.data], laidTests := true, laidLooks := .later }
def ArmDerivesCardSaid : Prop := Claim7.holds Tryz.pinned (.plain (OpenSpec.ofChange armDerivesSpec)) armDerivesCard

/-- THE SECOND FORM's CARD OF 'sextantlaw11.ArmChecks'. -/
def armChecksUptoCard : Claim7 := { stood := { row := armChecksUptoRow, standIns := [], harness := (true, "cbe890ba579e9fe484ad4148d9b86cda88b21723e9e8055126c4ab6c3ff75449"), looks := false }, kinds := [], alts := [], laidByText := true, laidKinds := [.data], laidTests := true, laidLooks := .later }
def ArmChecksUptoCardSaid : Prop := Claim7.holds Tryz.pinned (.plain (OpenSpec.upto armChecksSpec)) armChecksUptoCard

/-- THE SECOND FORM's CARD OF 'sextantlaw11.ArmDerives'. -/
def armDerivesUptoCard : Claim7 := { stood := { row := armDerivesUptoRow, standIns := [], harness := (true, "cbe890ba579e9fe484ad4148d9b86cda88b21723e9e8055126c4ab6c3ff75449"), looks := false }, kinds := [], alts := [], laidByText := true, laidKinds := [.data], laidTests := true, laidLooks := .later }
def ArmDerivesUptoCardSaid : Prop := Claim7.holds Tryz.pinned (.plain (OpenSpec.upto armDerivesSpec)) armDerivesUptoCard
end Rows
end Go.Proofs.YtmilaghhnaoidaaGreatDoor
