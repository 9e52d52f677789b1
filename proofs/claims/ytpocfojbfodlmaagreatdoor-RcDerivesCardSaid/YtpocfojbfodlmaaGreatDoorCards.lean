/-
  DERIVED. GIVEN WITH THE SEED: THE CARDS: each row of YtpocfojbfodlmaaGreatDoorRows.lean that lists a variable, with what it lists TIED to the program's text (the seventh form; the later family's looks); each row that meets fmt, with fmt's text TOLD by the authors' own Lean function (tested against real Go, not proved from fmt's source: count such statements apart). THE CARD IS WHAT COUNTS. Prove the row's statement (the work); the ties are given (YtpocfojbfodlmaaGreatDoorTie.lean); close each card by the builder's one call (the guide's Derived/Test/ToyasCard.lean, 'card_holds'). Laid BY PROGRAM, IN A SANDBOX (cutbox-door.mjs). By AI agents, Wed Nov 11 2026. No macro, syntax, notation, axiom, sorry.
-/
import Derived.Test.YtpocfojbfodlmaaGreatDoorRows
import GoSem.ClaimSeven
namespace Go.Proofs.YtpocfojbfodlmaaGreatDoor
namespace Rows

/-- THE TIED CARD OF 'sextantlaw10.RcChecks'. -/
def rcChecksCard : Claim7 := { stood := { row := rcChecksRow, standIns := [], harness := (true, "5e831a87cb4d238bc6d94b3efa128c6b2270f03ea50135b4b7a52a2998eaca65"), looks := false }, kinds := [], alts := [], laidByText := true, laidKinds := [.data], laidTests := true, laidLooks := .later }
def RcChecksCardSaid : Prop := Claim7.holds Tryz.pinned (.plain (OpenSpec.ofChange rcChecksSpec)) rcChecksCard

/-- THE TIED CARD OF 'sextantlaw10.RcDerives'. -/
def rcDerivesCard : Claim7 := { stood := { row := rcDerivesRow, standIns := [], harness := (true, "5e831a87cb4d238bc6d94b3efa128c6b2270f03ea50135b4b7a52a2998eaca65"), looks := false }, kinds := [], alts := [], laidByText := true, laidKinds := [.data], laidTests := true, laidLooks := .later }
def RcDerivesCardSaid : Prop := Claim7.holds Tryz.pinned (.plain (OpenSpec.ofChange rcDerivesSpec)) rcDerivesCard

/-- THE SECOND FORM's CARD OF 'sextantlaw10.RcChecks'. -/
def rcChecksUptoCard : Claim7 := { stood := { row := rcChecksUptoRow, standIns := [], harness := (true, "5e831a87cb4d238bc6d94b3efa128c6b2270f03ea50135b4b7a52a2998eaca65"), looks := false }, kinds := [], alts := [], laidByText := true, laidKinds := [.data], laidTests := true, laidLooks := .later }
def RcChecksUptoCardSaid : Prop := Claim7.holds Tryz.pinned (.plain (OpenSpec.upto rcChecksSpec)) rcChecksUptoCard

/-- THE SECOND FORM's CARD OF 'sextantlaw10.RcDerives'. -/
def rcDerivesUptoCard : Claim7 := { stood := { row := rcDerivesUptoRow, standIns := [], harness := (true, "5e831a87cb4d238bc6d94b3efa128c6b2270f03ea50135b4b7a52a2998eaca65"), looks := false }, kinds := [], alts := [], laidByText := true, laidKinds := [.data], laidTests := true, laidLooks := .later }
def RcDerivesUptoCardSaid : Prop := Claim7.holds Tryz.pinned (.plain (OpenSpec.upto rcDerivesSpec)) rcDerivesUptoCard
end Rows
end Go.Proofs.YtpocfojbfodlmaaGreatDoor
