/-
  DERIVED. GIVEN WITH THE SEED: THE CARDS: each row of YtmilaghhnaoidaaDoorRows.lean that lists a variable, with what it lists TIED to the program's text (the seventh form; the later family's looks); each row that meets fmt, with fmt's text TOLD by the authors' own Lean function (tested against real Go, not proved from fmt's source: count such statements apart). THE CARD IS WHAT COUNTS. Prove the row's statement (the work); the ties are given (YtmilaghhnaoidaaDoorTie.lean); close each card by the builder's one call (the guide's Derived/Test/ToyasCard.lean, 'card_holds'). Laid BY PROGRAM, IN A SANDBOX (cutbox-door.mjs). By AI agents, Wed Nov 11 2026. No macro, syntax, notation, axiom, sorry.
-/
import Derived.Test.YtmilaghhnaoidaaDoorRows
import GoSem.ClaimSeven
namespace Go.Proofs.YtmilaghhnaoidaaDoor
namespace Rows

/-- THE TIED CARD OF 'sextantlaw8.GraphChecks'. -/
def graphChecksCard : Claim7 := { stood := { row := graphChecksRow, standIns := [], harness := (true, "539519f6a0e31e3a06b3ece42fbfe0ab5b876686438934d5cb51cad344fcbceb"), looks := false }, kinds := [], alts := [], laidByText := true, laidKinds := [.data], laidTests := true, laidLooks := .later }
def GraphChecksCardSaid : Prop := Claim7.holds Tryd.pinned (.plain (OpenSpec.ofChange graphChecksSpec)) graphChecksCard

/-- THE TIED CARD OF 'sextantlaw8.GraphDerives'. -/
def graphDerivesCard : Claim7 := { stood := { row := graphDerivesRow, standIns := [], harness := (true, "539519f6a0e31e3a06b3ece42fbfe0ab5b876686438934d5cb51cad344fcbceb"), looks := false }, kinds := [], alts := [], laidByText := true, laidKinds := [.data], laidTests := true, laidLooks := .later }
def GraphDerivesCardSaid : Prop := Claim7.holds Tryd.pinned (.plain (OpenSpec.ofChange graphDerivesSpec)) graphDerivesCard

/-- THE TIED CARD OF 'sextantlaw8.GraphSees'. -/
def graphSeesCard : Claim7 := { stood := { row := graphSeesRow, standIns := [], harness := (true, "539519f6a0e31e3a06b3ece42fbfe0ab5b876686438934d5cb51cad344fcbceb"), looks := false }, kinds := [], alts := [], laidByText := true, laidKinds := [.data], laidTests := true, laidLooks := .later }
def GraphSeesCardSaid : Prop := Claim7.holds Tryd.pinned (.plain (OpenSpec.ofChange graphSeesSpec)) graphSeesCard

/-- THE TIED CARD OF 'sextantlaw8.GraphLaws'. -/
def graphLawsCard : Claim7 := { stood := { row := graphLawsRow, standIns := [], harness := (true, "539519f6a0e31e3a06b3ece42fbfe0ab5b876686438934d5cb51cad344fcbceb"), looks := false }, kinds := [], alts := [], laidByText := true, laidKinds := [.data], laidTests := true, laidLooks := .later }
def GraphLawsCardSaid : Prop := Claim7.holds Tryd.pinned (.plain (OpenSpec.ofChange graphLawsSpec)) graphLawsCard

/-- THE TIED CARD OF 'sextantlaw8.GraphKnown'. -/
def graphKnownCard : Claim7 := { stood := { row := graphKnownRow, standIns := [], harness := (true, "539519f6a0e31e3a06b3ece42fbfe0ab5b876686438934d5cb51cad344fcbceb"), looks := false }, kinds := [], alts := [], laidByText := true, laidKinds := [.data], laidTests := true, laidLooks := .later }
def GraphKnownCardSaid : Prop := Claim7.holds Tryd.pinned (.plain (OpenSpec.ofChange graphKnownSpec)) graphKnownCard

/-- THE TIED CARD OF 'sextantlaw11.ArmKnown'. -/
def armKnownCard : Claim7 := { stood := { row := armKnownRow, standIns := [], harness := (true, "539519f6a0e31e3a06b3ece42fbfe0ab5b876686438934d5cb51cad344fcbceb"), looks := false }, kinds := [], alts := [], laidByText := true, laidKinds := [.data], laidTests := true, laidLooks := .later }
def ArmKnownCardSaid : Prop := Claim7.holds Tryd.pinned (.plain (OpenSpec.ofChange armKnownSpec)) armKnownCard

/-- THE TIED CARD OF 'sextantlaw11.ArmWeaker'. -/
def armWeakerCard : Claim7 := { stood := { row := armWeakerRow, standIns := [], harness := (true, "539519f6a0e31e3a06b3ece42fbfe0ab5b876686438934d5cb51cad344fcbceb"), looks := false }, kinds := [], alts := [], laidByText := true, laidKinds := [.data], laidTests := true, laidLooks := .later }
def ArmWeakerCardSaid : Prop := Claim7.holds Tryd.pinned (.plain (OpenSpec.ofChange armWeakerSpec)) armWeakerCard

/-- THE TIED CARD OF 'sextantlaw11.ArmLaws'. -/
def armLawsCard : Claim7 := { stood := { row := armLawsRow, standIns := [], harness := (true, "539519f6a0e31e3a06b3ece42fbfe0ab5b876686438934d5cb51cad344fcbceb"), looks := false }, kinds := [], alts := [], laidByText := true, laidKinds := [.data], laidTests := true, laidLooks := .later }
def ArmLawsCardSaid : Prop := Claim7.holds Tryd.pinned (.plain (OpenSpec.ofChange armLawsSpec)) armLawsCard

/-- THE SECOND FORM's CARD OF 'sextantlaw8.GraphChecks'. -/
def graphChecksUptoCard : Claim7 := { stood := { row := graphChecksUptoRow, standIns := [], harness := (true, "539519f6a0e31e3a06b3ece42fbfe0ab5b876686438934d5cb51cad344fcbceb"), looks := false }, kinds := [], alts := [], laidByText := true, laidKinds := [.data], laidTests := true, laidLooks := .later }
def GraphChecksUptoCardSaid : Prop := Claim7.holds Tryd.pinned (.plain (OpenSpec.upto graphChecksSpec)) graphChecksUptoCard

/-- THE SECOND FORM's CARD OF 'sextantlaw8.GraphDerives'. -/
def graphDerivesUptoCard : Claim7 := { stood := { row := graphDerivesUptoRow, standIns := [], harness := (true, "539519f6a0e31e3a06b3ece42fbfe0ab5b876686438934d5cb51cad344fcbceb"), looks := false }, kinds := [], alts := [], laidByText := true, laidKinds := [.data], laidTests := true, laidLooks := .later }
def GraphDerivesUptoCardSaid : Prop := Claim7.holds Tryd.pinned (.plain (OpenSpec.upto graphDerivesSpec)) graphDerivesUptoCard

/-- THE SECOND FORM's CARD OF 'sextantlaw8.GraphSees'. -/
def graphSeesUptoCard : Claim7 := { stood := { row := graphSeesUptoRow, standIns := [], harness := (true, "539519f6a0e31e3a06b3ece42fbfe0ab5b876686438934d5cb51cad344fcbceb"), looks := false }, kinds := [], alts := [], laidByText := true, laidKinds := [.data], laidTests := true, laidLooks := .later }
def GraphSeesUptoCardSaid : Prop := Claim7.holds Tryd.pinned (.plain (OpenSpec.upto graphSeesSpec)) graphSeesUptoCard

/-- THE SECOND FORM's CARD OF 'sextantlaw8.GraphLaws'. -/
def graphLawsUptoCard : Claim7 := { stood := { row := graphLawsUptoRow, standIns := [], harness := (true, "539519f6a0e31e3a06b3ece42fbfe0ab5b876686438934d5cb51cad344fcbceb"), looks := false }, kinds := [], alts := [], laidByText := true, laidKinds := [.data], laidTests := true, laidLooks := .later }
def GraphLawsUptoCardSaid : Prop := Claim7.holds Tryd.pinned (.plain (OpenSpec.upto graphLawsSpec)) graphLawsUptoCard

/-- THE SECOND FORM's CARD OF 'sextantlaw8.GraphKnown'. -/
def graphKnownUptoCard : Claim7 := { stood := { row := graphKnownUptoRow, standIns := [], harness := (true, "539519f6a0e31e3a06b3ece42fbfe0ab5b876686438934d5cb51cad344fcbceb"), looks := false }, kinds := [], alts := [], laidByText := true, laidKinds := [.data], laidTests := true, laidLooks := .later }
def GraphKnownUptoCardSaid : Prop := Claim7.holds Tryd.pinned (.plain (OpenSpec.upto graphKnownSpec)) graphKnownUptoCard

/-- THE SECOND FORM's CARD OF 'sextantlaw11.ArmKnown'. -/
def armKnownUptoCard : Claim7 := { stood := { row := armKnownUptoRow, standIns := [], harness := (true, "539519f6a0e31e3a06b3ece42fbfe0ab5b876686438934d5cb51cad344fcbceb"), looks := false }, kinds := [], alts := [], laidByText := true, laidKinds := [.data], laidTests := true, laidLooks := .later }
def ArmKnownUptoCardSaid : Prop := Claim7.holds Tryd.pinned (.plain (OpenSpec.upto armKnownSpec)) armKnownUptoCard

/-- THE SECOND FORM's CARD OF 'sextantlaw11.ArmWeaker'. -/
def armWeakerUptoCard : Claim7 := { stood := { row := armWeakerUptoRow, standIns := [], harness := (true, "539519f6a0e31e3a06b3ece42fbfe0ab5b876686438934d5cb51cad344fcbceb"), looks := false }, kinds := [], alts := [], laidByText := true, laidKinds := [.data], laidTests := true, laidLooks := .later }
def ArmWeakerUptoCardSaid : Prop := Claim7.holds Tryd.pinned (.plain (OpenSpec.upto armWeakerSpec)) armWeakerUptoCard

/-- THE SECOND FORM's CARD OF 'sextantlaw11.ArmLaws'. -/
def armLawsUptoCard : Claim7 := { stood := { row := armLawsUptoRow, standIns := [], harness := (true, "539519f6a0e31e3a06b3ece42fbfe0ab5b876686438934d5cb51cad344fcbceb"), looks := false }, kinds := [], alts := [], laidByText := true, laidKinds := [.data], laidTests := true, laidLooks := .later }
def ArmLawsUptoCardSaid : Prop := Claim7.holds Tryd.pinned (.plain (OpenSpec.upto armLawsSpec)) armLawsUptoCard
end Rows
end Go.Proofs.YtmilaghhnaoidaaDoor
