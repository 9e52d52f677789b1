/-
  DERIVED. GIVEN WITH THE SEED: THE CARDS: each row of YtgedofjefepebaaDoorRows.lean that lists a variable, with what it lists TIED to the program's text (the seventh form; the later family's looks); each row that meets fmt, with fmt's text TOLD by the authors' own Lean function (tested against real Go, not proved from fmt's source: count such statements apart). THE CARD IS WHAT COUNTS. Prove the row's statement (the work); the ties are given (YtgedofjefepebaaDoorTie.lean); close each card by the builder's one call (the guide's Derived/Test/ToyasCard.lean, 'card_holds'). Laid BY PROGRAM, IN A SANDBOX (cutbox-door.mjs). By AI agents, Wed Nov 11 2026. No macro, syntax, notation, axiom, sorry.
-/
import Derived.Test.YtgedofjefepebaaDoorRows
import GoSem.ClaimSeven
namespace Go.Proofs.YtgedofjefepebaaDoor
namespace Rows

/-- THE TIED CARD OF 'sextantlaw2.OrderSorts'. -/
def orderSortsCard : Claim7 := { stood := { row := orderSortsRow, standIns := [], harness := (true, "7b9b27c077729fcad8823d6d595314483dd3cabd4e1b1045f5da0fcda9ba2dbd"), looks := false }, kinds := [], alts := [], laidByText := true, laidKinds := [.data], laidTests := true, laidLooks := .later }
def OrderSortsCardSaid : Prop := Claim7.holds Tryd.pinned (.plain (OpenSpec.ofChange orderSortsSpec)) orderSortsCard

/-- THE TIED CARD OF 'sextantlaw2.OrderGlues'. -/
def orderGluesCard : Claim7 := { stood := { row := orderGluesRow, standIns := [], harness := (true, "7b9b27c077729fcad8823d6d595314483dd3cabd4e1b1045f5da0fcda9ba2dbd"), looks := false }, kinds := [], alts := [], laidByText := true, laidKinds := [.data], laidTests := true, laidLooks := .later }
def OrderGluesCardSaid : Prop := Claim7.holds Tryd.pinned (.plain (OpenSpec.ofChange orderGluesSpec)) orderGluesCard

/-- THE TIED CARD OF 'sextantlaw1.RelCycles'. -/
def relCyclesCard : Claim7 := { stood := { row := relCyclesRow, standIns := [], harness := (true, "7b9b27c077729fcad8823d6d595314483dd3cabd4e1b1045f5da0fcda9ba2dbd"), looks := false }, kinds := [], alts := [], laidByText := true, laidKinds := [.data], laidTests := true, laidLooks := .later }
def RelCyclesCardSaid : Prop := Claim7.holds Tryd.pinned (.plain (OpenSpec.ofChange relCyclesSpec)) relCyclesCard

/-- THE TIED CARD OF 'sextantlaw2.OrderExtends'. -/
def orderExtendsCard : Claim7 := { stood := { row := orderExtendsRow, standIns := [], harness := (true, "7b9b27c077729fcad8823d6d595314483dd3cabd4e1b1045f5da0fcda9ba2dbd"), looks := false }, kinds := [], alts := [], laidByText := true, laidKinds := [.data], laidTests := true, laidLooks := .later }
def OrderExtendsCardSaid : Prop := Claim7.holds Tryd.pinned (.plain (OpenSpec.ofChange orderExtendsSpec)) orderExtendsCard

/-- THE TIED CARD OF 'sextantlaw2.OrderAll'. -/
def orderAllCard : Claim7 := { stood := { row := orderAllRow, standIns := [], harness := (true, "7b9b27c077729fcad8823d6d595314483dd3cabd4e1b1045f5da0fcda9ba2dbd"), looks := false }, kinds := [], alts := [], laidByText := true, laidKinds := [.data], laidTests := true, laidLooks := .later }
def OrderAllCardSaid : Prop := Claim7.holds Tryd.pinned (.plain (OpenSpec.ofChange orderAllSpec)) orderAllCard

/-- THE TIED CARD OF 'sextantlaw1.RelLaws'. -/
def relLawsCard : Claim7 := { stood := { row := relLawsRow, standIns := [], harness := (true, "7b9b27c077729fcad8823d6d595314483dd3cabd4e1b1045f5da0fcda9ba2dbd"), looks := false }, kinds := [], alts := [], laidByText := true, laidKinds := [.data], laidTests := true, laidLooks := .later }
def RelLawsCardSaid : Prop := Claim7.holds Tryd.pinned (.plain (OpenSpec.ofChange relLawsSpec)) relLawsCard

/-- THE TIED CARD OF 'sextantlaw2.OrderParts'. -/
def orderPartsCard : Claim7 := { stood := { row := orderPartsRow, standIns := [], harness := (true, "7b9b27c077729fcad8823d6d595314483dd3cabd4e1b1045f5da0fcda9ba2dbd"), looks := false }, kinds := [], alts := [], laidByText := true, laidKinds := [.data], laidTests := true, laidLooks := .later }
def OrderPartsCardSaid : Prop := Claim7.holds Tryd.pinned (.plain (OpenSpec.ofChange orderPartsSpec)) orderPartsCard

/-- THE TIED CARD OF 'sextantlaw2.OrderLaws'. -/
def orderLawsCard : Claim7 := { stood := { row := orderLawsRow, standIns := [], harness := (true, "7b9b27c077729fcad8823d6d595314483dd3cabd4e1b1045f5da0fcda9ba2dbd"), looks := false }, kinds := [], alts := [], laidByText := true, laidKinds := [.data], laidTests := true, laidLooks := .later }
def OrderLawsCardSaid : Prop := Claim7.holds Tryd.pinned (.plain (OpenSpec.ofChange orderLawsSpec)) orderLawsCard

/-- THE TIED CARD OF 'sextantlaw1.RelKnown'. -/
def relKnownCard : Claim7 := { stood := { row := relKnownRow, standIns := [], harness := (true, "7b9b27c077729fcad8823d6d595314483dd3cabd4e1b1045f5da0fcda9ba2dbd"), looks := false }, kinds := [], alts := [], laidByText := true, laidKinds := [.data], laidTests := true, laidLooks := .later }
def RelKnownCardSaid : Prop := Claim7.holds Tryd.pinned (.plain (OpenSpec.ofChange relKnownSpec)) relKnownCard

/-- THE TIED CARD OF 'sextantlaw1.RelPlays'. -/
def relPlaysCard : Claim7 := { stood := { row := relPlaysRow, standIns := [], harness := (true, "7b9b27c077729fcad8823d6d595314483dd3cabd4e1b1045f5da0fcda9ba2dbd"), looks := false }, kinds := [], alts := [], laidByText := true, laidKinds := [.data], laidTests := true, laidLooks := .later }
def RelPlaysCardSaid : Prop := Claim7.holds Tryd.pinned (.plain (OpenSpec.ofChange relPlaysSpec)) relPlaysCard

/-- THE TIED CARD OF 'sextantlaw2.OrderKnown'. -/
def orderKnownCard : Claim7 := { stood := { row := orderKnownRow, standIns := [], harness := (true, "7b9b27c077729fcad8823d6d595314483dd3cabd4e1b1045f5da0fcda9ba2dbd"), looks := false }, kinds := [], alts := [], laidByText := true, laidKinds := [.data], laidTests := true, laidLooks := .later }
def OrderKnownCardSaid : Prop := Claim7.holds Tryd.pinned (.plain (OpenSpec.ofChange orderKnownSpec)) orderKnownCard

/-- THE SECOND FORM's CARD OF 'sextantlaw2.OrderSorts'. -/
def orderSortsUptoCard : Claim7 := { stood := { row := orderSortsUptoRow, standIns := [], harness := (true, "7b9b27c077729fcad8823d6d595314483dd3cabd4e1b1045f5da0fcda9ba2dbd"), looks := false }, kinds := [], alts := [], laidByText := true, laidKinds := [.data], laidTests := true, laidLooks := .later }
def OrderSortsUptoCardSaid : Prop := Claim7.holds Tryd.pinned (.plain (OpenSpec.upto orderSortsSpec)) orderSortsUptoCard

/-- THE SECOND FORM's CARD OF 'sextantlaw2.OrderGlues'. -/
def orderGluesUptoCard : Claim7 := { stood := { row := orderGluesUptoRow, standIns := [], harness := (true, "7b9b27c077729fcad8823d6d595314483dd3cabd4e1b1045f5da0fcda9ba2dbd"), looks := false }, kinds := [], alts := [], laidByText := true, laidKinds := [.data], laidTests := true, laidLooks := .later }
def OrderGluesUptoCardSaid : Prop := Claim7.holds Tryd.pinned (.plain (OpenSpec.upto orderGluesSpec)) orderGluesUptoCard

/-- THE SECOND FORM's CARD OF 'sextantlaw1.RelCycles'. -/
def relCyclesUptoCard : Claim7 := { stood := { row := relCyclesUptoRow, standIns := [], harness := (true, "7b9b27c077729fcad8823d6d595314483dd3cabd4e1b1045f5da0fcda9ba2dbd"), looks := false }, kinds := [], alts := [], laidByText := true, laidKinds := [.data], laidTests := true, laidLooks := .later }
def RelCyclesUptoCardSaid : Prop := Claim7.holds Tryd.pinned (.plain (OpenSpec.upto relCyclesSpec)) relCyclesUptoCard

/-- THE SECOND FORM's CARD OF 'sextantlaw2.OrderExtends'. -/
def orderExtendsUptoCard : Claim7 := { stood := { row := orderExtendsUptoRow, standIns := [], harness := (true, "7b9b27c077729fcad8823d6d595314483dd3cabd4e1b1045f5da0fcda9ba2dbd"), looks := false }, kinds := [], alts := [], laidByText := true, laidKinds := [.data], laidTests := true, laidLooks := .later }
def OrderExtendsUptoCardSaid : Prop := Claim7.holds Tryd.pinned (.plain (OpenSpec.upto orderExtendsSpec)) orderExtendsUptoCard

/-- THE SECOND FORM's CARD OF 'sextantlaw2.OrderAll'. -/
def orderAllUptoCard : Claim7 := { stood := { row := orderAllUptoRow, standIns := [], harness := (true, "7b9b27c077729fcad8823d6d595314483dd3cabd4e1b1045f5da0fcda9ba2dbd"), looks := false }, kinds := [], alts := [], laidByText := true, laidKinds := [.data], laidTests := true, laidLooks := .later }
def OrderAllUptoCardSaid : Prop := Claim7.holds Tryd.pinned (.plain (OpenSpec.upto orderAllSpec)) orderAllUptoCard

/-- THE SECOND FORM's CARD OF 'sextantlaw1.RelLaws'. -/
def relLawsUptoCard : Claim7 := { stood := { row := relLawsUptoRow, standIns := [], harness := (true, "7b9b27c077729fcad8823d6d595314483dd3cabd4e1b1045f5da0fcda9ba2dbd"), looks := false }, kinds := [], alts := [], laidByText := true, laidKinds := [.data], laidTests := true, laidLooks := .later }
def RelLawsUptoCardSaid : Prop := Claim7.holds Tryd.pinned (.plain (OpenSpec.upto relLawsSpec)) relLawsUptoCard

/-- THE SECOND FORM's CARD OF 'sextantlaw2.OrderParts'. -/
def orderPartsUptoCard : Claim7 := { stood := { row := orderPartsUptoRow, standIns := [], harness := (true, "7b9b27c077729fcad8823d6d595314483dd3cabd4e1b1045f5da0fcda9ba2dbd"), looks := false }, kinds := [], alts := [], laidByText := true, laidKinds := [.data], laidTests := true, laidLooks := .later }
def OrderPartsUptoCardSaid : Prop := Claim7.holds Tryd.pinned (.plain (OpenSpec.upto orderPartsSpec)) orderPartsUptoCard

/-- THE SECOND FORM's CARD OF 'sextantlaw2.OrderLaws'. -/
def orderLawsUptoCard : Claim7 := { stood := { row := orderLawsUptoRow, standIns := [], harness := (true, "7b9b27c077729fcad8823d6d595314483dd3cabd4e1b1045f5da0fcda9ba2dbd"), looks := false }, kinds := [], alts := [], laidByText := true, laidKinds := [.data], laidTests := true, laidLooks := .later }
def OrderLawsUptoCardSaid : Prop := Claim7.holds Tryd.pinned (.plain (OpenSpec.upto orderLawsSpec)) orderLawsUptoCard

/-- THE SECOND FORM's CARD OF 'sextantlaw1.RelKnown'. -/
def relKnownUptoCard : Claim7 := { stood := { row := relKnownUptoRow, standIns := [], harness := (true, "7b9b27c077729fcad8823d6d595314483dd3cabd4e1b1045f5da0fcda9ba2dbd"), looks := false }, kinds := [], alts := [], laidByText := true, laidKinds := [.data], laidTests := true, laidLooks := .later }
def RelKnownUptoCardSaid : Prop := Claim7.holds Tryd.pinned (.plain (OpenSpec.upto relKnownSpec)) relKnownUptoCard

/-- THE SECOND FORM's CARD OF 'sextantlaw1.RelPlays'. -/
def relPlaysUptoCard : Claim7 := { stood := { row := relPlaysUptoRow, standIns := [], harness := (true, "7b9b27c077729fcad8823d6d595314483dd3cabd4e1b1045f5da0fcda9ba2dbd"), looks := false }, kinds := [], alts := [], laidByText := true, laidKinds := [.data], laidTests := true, laidLooks := .later }
def RelPlaysUptoCardSaid : Prop := Claim7.holds Tryd.pinned (.plain (OpenSpec.upto relPlaysSpec)) relPlaysUptoCard

/-- THE SECOND FORM's CARD OF 'sextantlaw2.OrderKnown'. -/
def orderKnownUptoCard : Claim7 := { stood := { row := orderKnownUptoRow, standIns := [], harness := (true, "7b9b27c077729fcad8823d6d595314483dd3cabd4e1b1045f5da0fcda9ba2dbd"), looks := false }, kinds := [], alts := [], laidByText := true, laidKinds := [.data], laidTests := true, laidLooks := .later }
def OrderKnownUptoCardSaid : Prop := Claim7.holds Tryd.pinned (.plain (OpenSpec.upto orderKnownSpec)) orderKnownUptoCard
end Rows
end Go.Proofs.YtgedofjefepebaaDoor
