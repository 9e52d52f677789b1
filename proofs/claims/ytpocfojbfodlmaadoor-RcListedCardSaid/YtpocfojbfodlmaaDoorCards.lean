/-
  DERIVED. GIVEN WITH THE SEED: THE CARDS: each row of YtpocfojbfodlmaaDoorRows.lean that lists a variable, with what it lists TIED to the program's text (the seventh form; the later family's looks); each row that meets fmt, with fmt's text TOLD by the authors' own Lean function (tested against real Go, not proved from fmt's source: count such statements apart). THE CARD IS WHAT COUNTS. Prove the row's statement (the work); the ties are given (YtpocfojbfodlmaaDoorTie.lean); close each card by the builder's one call (the guide's Derived/Test/ToyasCard.lean, 'card_holds'). Laid BY PROGRAM, IN A SANDBOX (cutbox-door.mjs). By AI agents, Wed Nov 11 2026. No macro, syntax, notation, axiom, sorry.
-/
import Derived.Test.YtpocfojbfodlmaaDoorRows
import GoSem.ClaimSeven
namespace Go.Proofs.YtpocfojbfodlmaaDoor
namespace Rows

/-- THE TIED CARD OF 'sextantlaw10.RcKnown'. -/
def rcKnownCard : Claim7 := { stood := { row := rcKnownRow, standIns := [], harness := (true, "0e06f22e661df96b8e87a9588220f2cd4673a33df523209f9442d920eacfd6a2"), looks := false }, kinds := [], alts := [], laidByText := true, laidKinds := [.data], laidTests := true, laidLooks := .later }
def RcKnownCardSaid : Prop := Claim7.holds Tryd.pinned (.plain (OpenSpec.ofChange rcKnownSpec)) rcKnownCard

/-- THE TIED CARD OF 'sextantlaw10.RcWeaker'. -/
def rcWeakerCard : Claim7 := { stood := { row := rcWeakerRow, standIns := [], harness := (true, "0e06f22e661df96b8e87a9588220f2cd4673a33df523209f9442d920eacfd6a2"), looks := false }, kinds := [], alts := [], laidByText := true, laidKinds := [.data], laidTests := true, laidLooks := .later }
def RcWeakerCardSaid : Prop := Claim7.holds Tryd.pinned (.plain (OpenSpec.ofChange rcWeakerSpec)) rcWeakerCard

/-- THE TIED CARD OF 'sextantlaw10.RcListed'. -/
def rcListedCard : Claim7 := { stood := { row := rcListedRow, standIns := [], harness := (true, "0e06f22e661df96b8e87a9588220f2cd4673a33df523209f9442d920eacfd6a2"), looks := false }, kinds := [], alts := [], laidByText := true, laidKinds := [.data], laidTests := true, laidLooks := .later }
def RcListedCardSaid : Prop := Claim7.holds Tryd.pinned (.plain (OpenSpec.ofChange rcListedSpec)) rcListedCard

/-- THE TIED CARD OF 'sextantlaw10.RcLaws'. -/
def rcLawsCard : Claim7 := { stood := { row := rcLawsRow, standIns := [], harness := (true, "0e06f22e661df96b8e87a9588220f2cd4673a33df523209f9442d920eacfd6a2"), looks := false }, kinds := [], alts := [], laidByText := true, laidKinds := [.data], laidTests := true, laidLooks := .later }
def RcLawsCardSaid : Prop := Claim7.holds Tryd.pinned (.plain (OpenSpec.ofChange rcLawsSpec)) rcLawsCard

/-- THE SECOND FORM's CARD OF 'sextantlaw10.RcKnown'. -/
def rcKnownUptoCard : Claim7 := { stood := { row := rcKnownUptoRow, standIns := [], harness := (true, "0e06f22e661df96b8e87a9588220f2cd4673a33df523209f9442d920eacfd6a2"), looks := false }, kinds := [], alts := [], laidByText := true, laidKinds := [.data], laidTests := true, laidLooks := .later }
def RcKnownUptoCardSaid : Prop := Claim7.holds Tryd.pinned (.plain (OpenSpec.upto rcKnownSpec)) rcKnownUptoCard

/-- THE SECOND FORM's CARD OF 'sextantlaw10.RcWeaker'. -/
def rcWeakerUptoCard : Claim7 := { stood := { row := rcWeakerUptoRow, standIns := [], harness := (true, "0e06f22e661df96b8e87a9588220f2cd4673a33df523209f9442d920eacfd6a2"), looks := false }, kinds := [], alts := [], laidByText := true, laidKinds := [.data], laidTests := true, laidLooks := .later }
def RcWeakerUptoCardSaid : Prop := Claim7.holds Tryd.pinned (.plain (OpenSpec.upto rcWeakerSpec)) rcWeakerUptoCard

/-- THE SECOND FORM's CARD OF 'sextantlaw10.RcListed'. -/
def rcListedUptoCard : Claim7 := { stood := { row := rcListedUptoRow, standIns := [], harness := (true, "0e06f22e661df96b8e87a9588220f2cd4673a33df523209f9442d920eacfd6a2"), looks := false }, kinds := [], alts := [], laidByText := true, laidKinds := [.data], laidTests := true, laidLooks := .later }
def RcListedUptoCardSaid : Prop := Claim7.holds Tryd.pinned (.plain (OpenSpec.upto rcListedSpec)) rcListedUptoCard

/-- THE SECOND FORM's CARD OF 'sextantlaw10.RcLaws'. -/
def rcLawsUptoCard : Claim7 := { stood := { row := rcLawsUptoRow, standIns := [], harness := (true, "0e06f22e661df96b8e87a9588220f2cd4673a33df523209f9442d920eacfd6a2"), looks := false }, kinds := [], alts := [], laidByText := true, laidKinds := [.data], laidTests := true, laidLooks := .later }
def RcLawsUptoCardSaid : Prop := Claim7.holds Tryd.pinned (.plain (OpenSpec.upto rcLawsSpec)) rcLawsUptoCard
end Rows
end Go.Proofs.YtpocfojbfodlmaaDoor
