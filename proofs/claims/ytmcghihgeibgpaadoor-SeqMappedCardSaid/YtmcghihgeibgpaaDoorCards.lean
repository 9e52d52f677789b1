/-
  DERIVED. GIVEN WITH THE SEED: THE CARDS: each row of YtmcghihgeibgpaaDoorRows.lean that lists a variable, with what it lists TIED to the program's text (the seventh form; the later family's looks); each row that meets fmt, with fmt's text TOLD by the authors' own Lean function (tested against real Go, not proved from fmt's source: count such statements apart). THE CARD IS WHAT COUNTS. Prove the row's statement (the work); the ties are given (YtmcghihgeibgpaaDoorTie.lean); close each card by the builder's one call (the guide's Derived/Test/ToyasCard.lean, 'card_holds'). Laid BY PROGRAM, IN A SANDBOX (cutbox-door.mjs). By AI agents, Wed Nov 11 2026. No macro, syntax, notation, axiom, sorry.
-/
import Derived.Test.YtmcghihgeibgpaaDoorRows
import GoSem.ClaimSeven
namespace Go.Proofs.YtmcghihgeibgpaaDoor
namespace Rows

/-- THE TIED CARD OF 'sextantlaw12.SeqMaps'. -/
def seqMapsCard : Claim7 := { stood := { row := seqMapsRow, standIns := [], harness := (true, "452869668652b2df3d23c00502b8d3d413d2462eee2f1a8bda3de4292f89034c"), looks := false }, kinds := [], alts := [], laidByText := true, laidKinds := [.data], laidTests := true, laidLooks := .later }
def SeqMapsCardSaid : Prop := Claim7.holds Tryd.pinned (.plain (OpenSpec.ofChange seqMapsSpec)) seqMapsCard

/-- THE TIED CARD OF 'sextantlaw21.TotalKnown'. -/
def totalKnownCard : Claim7 := { stood := { row := totalKnownRow, standIns := [], harness := (true, "452869668652b2df3d23c00502b8d3d413d2462eee2f1a8bda3de4292f89034c"), looks := false }, kinds := [], alts := [], laidByText := true, laidKinds := [.data], laidTests := true, laidLooks := .later }
def TotalKnownCardSaid : Prop := Claim7.holds Tryd.pinned (.plain (OpenSpec.ofChange totalKnownSpec)) totalKnownCard

/-- THE TIED CARD OF 'sextantlaw21.TotalOrders'. -/
def totalOrdersCard : Claim7 := { stood := { row := totalOrdersRow, standIns := [], harness := (true, "452869668652b2df3d23c00502b8d3d413d2462eee2f1a8bda3de4292f89034c"), looks := false }, kinds := [], alts := [], laidByText := true, laidKinds := [.data], laidTests := true, laidLooks := .later }
def TotalOrdersCardSaid : Prop := Claim7.holds Tryd.pinned (.plain (OpenSpec.ofChange totalOrdersSpec)) totalOrdersCard

/-- THE TIED CARD OF 'sextantlaw21.TotalReplays'. -/
def totalReplaysCard : Claim7 := { stood := { row := totalReplaysRow, standIns := [], harness := (true, "452869668652b2df3d23c00502b8d3d413d2462eee2f1a8bda3de4292f89034c"), looks := false }, kinds := [], alts := [], laidByText := true, laidKinds := [.data], laidTests := true, laidLooks := .later }
def TotalReplaysCardSaid : Prop := Claim7.holds Tryd.pinned (.plain (OpenSpec.ofChange totalReplaysSpec)) totalReplaysCard

/-- THE TIED CARD OF 'sextantlaw21.TotalAny'. -/
def totalAnyCard : Claim7 := { stood := { row := totalAnyRow, standIns := [], harness := (true, "452869668652b2df3d23c00502b8d3d413d2462eee2f1a8bda3de4292f89034c"), looks := false }, kinds := [], alts := [], laidByText := true, laidKinds := [.data], laidTests := true, laidLooks := .later }
def TotalAnyCardSaid : Prop := Claim7.holds Tryd.pinned (.plain (OpenSpec.ofChange totalAnySpec)) totalAnyCard

/-- THE TIED CARD OF 'sextantlaw21.TotalRow'. -/
def totalRowCard : Claim7 := { stood := { row := totalRowRow, standIns := [], harness := (true, "452869668652b2df3d23c00502b8d3d413d2462eee2f1a8bda3de4292f89034c"), looks := false }, kinds := [], alts := [], laidByText := true, laidKinds := [.data], laidTests := true, laidLooks := .later }
def TotalRowCardSaid : Prop := Claim7.holds Tryd.pinned (.plain (OpenSpec.ofChange totalRowSpec)) totalRowCard

/-- THE TIED CARD OF 'sextantlaw12.SeqKnown'. -/
def seqKnownCard : Claim7 := { stood := { row := seqKnownRow, standIns := [], harness := (true, "452869668652b2df3d23c00502b8d3d413d2462eee2f1a8bda3de4292f89034c"), looks := false }, kinds := [], alts := [], laidByText := true, laidKinds := [.data], laidTests := true, laidLooks := .later }
def SeqKnownCardSaid : Prop := Claim7.holds Tryd.pinned (.plain (OpenSpec.ofChange seqKnownSpec)) seqKnownCard

/-- THE TIED CARD OF 'sextantlaw12.SeqWithin'. -/
def seqWithinCard : Claim7 := { stood := { row := seqWithinRow, standIns := [], harness := (true, "452869668652b2df3d23c00502b8d3d413d2462eee2f1a8bda3de4292f89034c"), looks := false }, kinds := [], alts := [], laidByText := true, laidKinds := [.data], laidTests := true, laidLooks := .later }
def SeqWithinCardSaid : Prop := Claim7.holds Tryd.pinned (.plain (OpenSpec.ofChange seqWithinSpec)) seqWithinCard

/-- THE TIED CARD OF 'sextantlaw12.SeqMapped'. -/
def seqMappedCard : Claim7 := { stood := { row := seqMappedRow, standIns := [], harness := (true, "452869668652b2df3d23c00502b8d3d413d2462eee2f1a8bda3de4292f89034c"), looks := false }, kinds := [], alts := [], laidByText := true, laidKinds := [.data], laidTests := true, laidLooks := .later }
def SeqMappedCardSaid : Prop := Claim7.holds Tryd.pinned (.plain (OpenSpec.ofChange seqMappedSpec)) seqMappedCard

/-- THE SECOND FORM's CARD OF 'sextantlaw12.SeqMaps'. -/
def seqMapsUptoCard : Claim7 := { stood := { row := seqMapsUptoRow, standIns := [], harness := (true, "452869668652b2df3d23c00502b8d3d413d2462eee2f1a8bda3de4292f89034c"), looks := false }, kinds := [], alts := [], laidByText := true, laidKinds := [.data], laidTests := true, laidLooks := .later }
def SeqMapsUptoCardSaid : Prop := Claim7.holds Tryd.pinned (.plain (OpenSpec.upto seqMapsSpec)) seqMapsUptoCard

/-- THE SECOND FORM's CARD OF 'sextantlaw21.TotalKnown'. -/
def totalKnownUptoCard : Claim7 := { stood := { row := totalKnownUptoRow, standIns := [], harness := (true, "452869668652b2df3d23c00502b8d3d413d2462eee2f1a8bda3de4292f89034c"), looks := false }, kinds := [], alts := [], laidByText := true, laidKinds := [.data], laidTests := true, laidLooks := .later }
def TotalKnownUptoCardSaid : Prop := Claim7.holds Tryd.pinned (.plain (OpenSpec.upto totalKnownSpec)) totalKnownUptoCard

/-- THE SECOND FORM's CARD OF 'sextantlaw21.TotalOrders'. -/
def totalOrdersUptoCard : Claim7 := { stood := { row := totalOrdersUptoRow, standIns := [], harness := (true, "452869668652b2df3d23c00502b8d3d413d2462eee2f1a8bda3de4292f89034c"), looks := false }, kinds := [], alts := [], laidByText := true, laidKinds := [.data], laidTests := true, laidLooks := .later }
def TotalOrdersUptoCardSaid : Prop := Claim7.holds Tryd.pinned (.plain (OpenSpec.upto totalOrdersSpec)) totalOrdersUptoCard

/-- THE SECOND FORM's CARD OF 'sextantlaw21.TotalReplays'. -/
def totalReplaysUptoCard : Claim7 := { stood := { row := totalReplaysUptoRow, standIns := [], harness := (true, "452869668652b2df3d23c00502b8d3d413d2462eee2f1a8bda3de4292f89034c"), looks := false }, kinds := [], alts := [], laidByText := true, laidKinds := [.data], laidTests := true, laidLooks := .later }
def TotalReplaysUptoCardSaid : Prop := Claim7.holds Tryd.pinned (.plain (OpenSpec.upto totalReplaysSpec)) totalReplaysUptoCard

/-- THE SECOND FORM's CARD OF 'sextantlaw21.TotalAny'. -/
def totalAnyUptoCard : Claim7 := { stood := { row := totalAnyUptoRow, standIns := [], harness := (true, "452869668652b2df3d23c00502b8d3d413d2462eee2f1a8bda3de4292f89034c"), looks := false }, kinds := [], alts := [], laidByText := true, laidKinds := [.data], laidTests := true, laidLooks := .later }
def TotalAnyUptoCardSaid : Prop := Claim7.holds Tryd.pinned (.plain (OpenSpec.upto totalAnySpec)) totalAnyUptoCard

/-- THE SECOND FORM's CARD OF 'sextantlaw21.TotalRow'. -/
def totalRowUptoCard : Claim7 := { stood := { row := totalRowUptoRow, standIns := [], harness := (true, "452869668652b2df3d23c00502b8d3d413d2462eee2f1a8bda3de4292f89034c"), looks := false }, kinds := [], alts := [], laidByText := true, laidKinds := [.data], laidTests := true, laidLooks := .later }
def TotalRowUptoCardSaid : Prop := Claim7.holds Tryd.pinned (.plain (OpenSpec.upto totalRowSpec)) totalRowUptoCard

/-- THE SECOND FORM's CARD OF 'sextantlaw12.SeqKnown'. -/
def seqKnownUptoCard : Claim7 := { stood := { row := seqKnownUptoRow, standIns := [], harness := (true, "452869668652b2df3d23c00502b8d3d413d2462eee2f1a8bda3de4292f89034c"), looks := false }, kinds := [], alts := [], laidByText := true, laidKinds := [.data], laidTests := true, laidLooks := .later }
def SeqKnownUptoCardSaid : Prop := Claim7.holds Tryd.pinned (.plain (OpenSpec.upto seqKnownSpec)) seqKnownUptoCard

/-- THE SECOND FORM's CARD OF 'sextantlaw12.SeqWithin'. -/
def seqWithinUptoCard : Claim7 := { stood := { row := seqWithinUptoRow, standIns := [], harness := (true, "452869668652b2df3d23c00502b8d3d413d2462eee2f1a8bda3de4292f89034c"), looks := false }, kinds := [], alts := [], laidByText := true, laidKinds := [.data], laidTests := true, laidLooks := .later }
def SeqWithinUptoCardSaid : Prop := Claim7.holds Tryd.pinned (.plain (OpenSpec.upto seqWithinSpec)) seqWithinUptoCard

/-- THE SECOND FORM's CARD OF 'sextantlaw12.SeqMapped'. -/
def seqMappedUptoCard : Claim7 := { stood := { row := seqMappedUptoRow, standIns := [], harness := (true, "452869668652b2df3d23c00502b8d3d413d2462eee2f1a8bda3de4292f89034c"), looks := false }, kinds := [], alts := [], laidByText := true, laidKinds := [.data], laidTests := true, laidLooks := .later }
def SeqMappedUptoCardSaid : Prop := Claim7.holds Tryd.pinned (.plain (OpenSpec.upto seqMappedSpec)) seqMappedUptoCard
end Rows
end Go.Proofs.YtmcghihgeibgpaaDoor
