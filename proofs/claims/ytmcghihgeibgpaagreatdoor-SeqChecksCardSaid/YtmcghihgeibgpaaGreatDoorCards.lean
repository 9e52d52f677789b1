/-
  DERIVED. GIVEN WITH THE SEED: THE CARDS: each row of YtmcghihgeibgpaaGreatDoorRows.lean that lists a variable, with what it lists TIED to the program's text (the seventh form; the later family's looks); each row that meets fmt, with fmt's text TOLD by the authors' own Lean function (tested against real Go, not proved from fmt's source: count such statements apart). THE CARD IS WHAT COUNTS. Prove the row's statement (the work); the ties are given (YtmcghihgeibgpaaGreatDoorTie.lean); close each card by the builder's one call (the guide's Derived/Test/ToyasCard.lean, 'card_holds'). Laid BY PROGRAM, IN A SANDBOX (cutbox-door.mjs). By AI agents, Wed Nov 11 2026. No macro, syntax, notation, axiom, sorry.
-/
import Derived.Test.YtmcghihgeibgpaaGreatDoorRows
import GoSem.ClaimSeven
namespace Go.Proofs.YtmcghihgeibgpaaGreatDoor
namespace Rows

/-- THE TIED CARD OF 'sextantlaw12.SeqChecks'. -/
def seqChecksCard : Claim7 := { stood := { row := seqChecksRow, standIns := [], harness := (true, "4f9845f468e7d4778e8f74cbc2dc30470cef676840e9fb2de1d00b7605c93faf"), looks := false }, kinds := [], alts := [], laidByText := true, laidKinds := [.data], laidTests := true, laidLooks := .later }
def SeqChecksCardSaid : Prop := Claim7.holds Tryz.pinned (.plain (OpenSpec.ofChange seqChecksSpec)) seqChecksCard

/-- THE SECOND FORM's CARD OF 'sextantlaw12.SeqChecks'. -/
def seqChecksUptoCard : Claim7 := { stood := { row := seqChecksUptoRow, standIns := [], harness := (true, "4f9845f468e7d4778e8f74cbc2dc30470cef676840e9fb2de1d00b7605c93faf"), looks := false }, kinds := [], alts := [], laidByText := true, laidKinds := [.data], laidTests := true, laidLooks := .later }
def SeqChecksUptoCardSaid : Prop := Claim7.holds Tryz.pinned (.plain (OpenSpec.upto seqChecksSpec)) seqChecksUptoCard
end Rows
end Go.Proofs.YtmcghihgeibgpaaGreatDoor
