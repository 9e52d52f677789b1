/-
  NARROWER THAN 'FOR EVERY INPUT', by the rows' own cells (each row's printed sentence says how): SeqMaps: laid · TotalKnown: laid · TotalOrders: laid · TotalReplays: laid · TotalAny: laid · TotalRow: laid · SeqKnown: laid · SeqWithin: laid · SeqMapped: laid.
  DERIVED. THE GIVEN ROWS OF THIS SEAT. 9 by the template 'for every input the law returns true; each argument reads behind the call as it read before'; 0 by the template 'total and deterministic' (their statements: YtmcghihgeibgpaaDoorTotals.lean).
  GIVEN WITH THE SEED: the statements are not yours to turn. If you find one false, say at which input.
  Laid BY PROGRAM, IN A SANDBOX (cutbox-rows.mjs): the forced cells as the released guide's own fill.sh prints them over the translation 90013c2602d75281… (all of the seat's roots in one cut). By AI agents, Wed Nov 11 2026. No macro, syntax, notation, axiom, sorry.
-/
import Derived.Test.YtmcghihgeibgpaaDoorChecked
import GoSem.Claim
import GoSem.ClaimJoined
import GoSem.ClaimMapViews
import Derived.JoinedTies
import Derived.KernelRfl
namespace Go.Proofs.YtmcghihgeibgpaaDoor
/- THE CELL 'sum', in the pinned program and in every row, IS THE sha256 OF THE DUMP (.gsa) THAT YtmcghihgeibgpaaDoorProg.lean LOADS. Nothing in Lean hashes anything: it is a label: what it is worth is what the hold of that sum in a sandbox is worth. -/
noncomputable def Tryd.pinned : Pinned := { name := "ytmcghihgeibgpaadoor", sum := "90013c2602d752816a9e0f9ed01803d4725337a2a965d4e77098ad83b9f901d9", checked := Tryd.checked }
namespace Rows
def none {H : Type} : Left H := { results := [], args := [] }

/- WHAT THE LISTED PACKAGE-LEVEL VARIABLES READ AS WHEN THE CALL BEGINS. Each datum BY PROGRAM (the guide's laid-datum.mjs) off the statement by which the dump's own 'gosem.cut.vars' lays the variable. In a bare row this is a premise. The card (YtmcghihgeibgpaaDoorCards.lean) ties it to the program's text. -/
def laid_math_bits_deBruijn64tab {H : Type} : DataW H := .agg [.lit (.int .u8 0), .lit (.int .u8 1), .lit (.int .u8 56), .lit (.int .u8 2), .lit (.int .u8 57), .lit (.int .u8 49), .lit (.int .u8 28), .lit (.int .u8 3), .lit (.int .u8 61), .lit (.int .u8 58), .lit (.int .u8 42), .lit (.int .u8 50), .lit (.int .u8 38), .lit (.int .u8 29), .lit (.int .u8 17), .lit (.int .u8 4), .lit (.int .u8 62), .lit (.int .u8 47), .lit (.int .u8 59), .lit (.int .u8 36), .lit (.int .u8 45), .lit (.int .u8 43), .lit (.int .u8 51), .lit (.int .u8 22), .lit (.int .u8 53), .lit (.int .u8 39), .lit (.int .u8 33), .lit (.int .u8 30), .lit (.int .u8 24), .lit (.int .u8 18), .lit (.int .u8 12), .lit (.int .u8 5), .lit (.int .u8 63), .lit (.int .u8 55), .lit (.int .u8 48), .lit (.int .u8 27), .lit (.int .u8 60), .lit (.int .u8 41), .lit (.int .u8 37), .lit (.int .u8 16), .lit (.int .u8 46), .lit (.int .u8 35), .lit (.int .u8 44), .lit (.int .u8 21), .lit (.int .u8 52), .lit (.int .u8 32), .lit (.int .u8 23), .lit (.int .u8 11), .lit (.int .u8 54), .lit (.int .u8 26), .lit (.int .u8 40), .lit (.int .u8 15), .lit (.int .u8 34), .lit (.int .u8 20), .lit (.int .u8 31), .lit (.int .u8 10), .lit (.int .u8 25), .lit (.int .u8 14), .lit (.int .u8 19), .lit (.int .u8 9), .lit (.int .u8 13), .lit (.int .u8 8), .lit (.int .u8 7), .lit (.int .u8 6)]

/-- 'sextantlaw12.SeqMaps': WHATEVER THE INPUT: true; the input reads as it did. -/
def seqMapsSpec : ChangeSpec := { name := "seqMaps", fn := fun _ => fun
  | [d1, d2] => { results := [.lit (.bool true)], args := [d1, d2] }
  | _ => none }
def seqMapsRow : OpenClaim := { program := "ytmcghihgeibgpaadoor", sum := "90013c2602d752816a9e0f9ed01803d4725337a2a965d4e77098ad83b9f901d9", func := "sextant/sextantlaw12.SeqMaps", spec := "seqMaps", unfollowed := true, recurses := true, named := ["math/bits.deBruijn64tab"], apart := false, laid := [("math/bits.deBruijn64tab", laid_math_bits_deBruijn64tab)] }
def SeqMapsSaid : Prop := seqMapsRow.holds Tryd.pinned (OpenSpec.ofChange seqMapsSpec)

/-- ITS FALSE NEIGHBOUR: 'it returns false'. Refute it at one input. -/
def seqMapsWrong : ChangeSpec := { name := "seqMaps", fn := fun _ => fun
  | [d1, d2] => { results := [.lit (.bool false)], args := [d1, d2] }
  | _ => none }
def SeqMapsWrongFalsely : Prop := seqMapsRow.holds Tryd.pinned (OpenSpec.ofChange seqMapsWrong)

/-- 'sextantlaw21.TotalKnown': WHATEVER THE INPUT: true; the input reads as it did. -/
def totalKnownSpec : ChangeSpec := { name := "totalKnown", fn := fun _ => fun
  | [] => { results := [.lit (.bool true)], args := [] }
  | _ => none }
def totalKnownRow : OpenClaim := { program := "ytmcghihgeibgpaadoor", sum := "90013c2602d752816a9e0f9ed01803d4725337a2a965d4e77098ad83b9f901d9", func := "sextant/sextantlaw21.TotalKnown", spec := "totalKnown", unfollowed := true, recurses := true, named := ["math/bits.deBruijn64tab"], apart := false, laid := [("math/bits.deBruijn64tab", laid_math_bits_deBruijn64tab)] }
def TotalKnownSaid : Prop := totalKnownRow.holds Tryd.pinned (OpenSpec.ofChange totalKnownSpec)

/-- ITS FALSE NEIGHBOUR: 'it returns false'. Refute it at one input. -/
def totalKnownWrong : ChangeSpec := { name := "totalKnown", fn := fun _ => fun
  | [] => { results := [.lit (.bool false)], args := [] }
  | _ => none }
def TotalKnownWrongFalsely : Prop := totalKnownRow.holds Tryd.pinned (OpenSpec.ofChange totalKnownWrong)

/-- 'sextantlaw21.TotalOrders': WHATEVER THE INPUT: true; the input reads as it did. -/
def totalOrdersSpec : ChangeSpec := { name := "totalOrders", fn := fun _ => fun
  | [d] => { results := [.lit (.bool true)], args := [d] }
  | _ => none }
def totalOrdersRow : OpenClaim := { program := "ytmcghihgeibgpaadoor", sum := "90013c2602d752816a9e0f9ed01803d4725337a2a965d4e77098ad83b9f901d9", func := "sextant/sextantlaw21.TotalOrders", spec := "totalOrders", unfollowed := true, recurses := true, named := ["math/bits.deBruijn64tab"], apart := false, laid := [("math/bits.deBruijn64tab", laid_math_bits_deBruijn64tab)] }
def TotalOrdersSaid : Prop := totalOrdersRow.holds Tryd.pinned (OpenSpec.ofChange totalOrdersSpec)

/-- ITS FALSE NEIGHBOUR: 'it returns false'. Refute it at one input. -/
def totalOrdersWrong : ChangeSpec := { name := "totalOrders", fn := fun _ => fun
  | [d] => { results := [.lit (.bool false)], args := [d] }
  | _ => none }
def TotalOrdersWrongFalsely : Prop := totalOrdersRow.holds Tryd.pinned (OpenSpec.ofChange totalOrdersWrong)

/-- 'sextantlaw21.TotalReplays': WHATEVER THE INPUT: true; the input reads as it did. -/
def totalReplaysSpec : ChangeSpec := { name := "totalReplays", fn := fun _ => fun
  | [d1, d2] => { results := [.lit (.bool true)], args := [d1, d2] }
  | _ => none }
def totalReplaysRow : OpenClaim := { program := "ytmcghihgeibgpaadoor", sum := "90013c2602d752816a9e0f9ed01803d4725337a2a965d4e77098ad83b9f901d9", func := "sextant/sextantlaw21.TotalReplays", spec := "totalReplays", unfollowed := true, recurses := true, named := ["math/bits.deBruijn64tab"], apart := false, laid := [("math/bits.deBruijn64tab", laid_math_bits_deBruijn64tab)] }
def TotalReplaysSaid : Prop := totalReplaysRow.holds Tryd.pinned (OpenSpec.ofChange totalReplaysSpec)

/-- ITS FALSE NEIGHBOUR: 'it returns false'. Refute it at one input. -/
def totalReplaysWrong : ChangeSpec := { name := "totalReplays", fn := fun _ => fun
  | [d1, d2] => { results := [.lit (.bool false)], args := [d1, d2] }
  | _ => none }
def TotalReplaysWrongFalsely : Prop := totalReplaysRow.holds Tryd.pinned (OpenSpec.ofChange totalReplaysWrong)

/-- 'sextantlaw21.TotalAny': WHATEVER THE INPUT: true; the input reads as it did. -/
def totalAnySpec : ChangeSpec := { name := "totalAny", fn := fun _ => fun
  | [d1, d2] => { results := [.lit (.bool true)], args := [d1, d2] }
  | _ => none }
def totalAnyRow : OpenClaim := { program := "ytmcghihgeibgpaadoor", sum := "90013c2602d752816a9e0f9ed01803d4725337a2a965d4e77098ad83b9f901d9", func := "sextant/sextantlaw21.TotalAny", spec := "totalAny", unfollowed := true, recurses := true, named := ["math/bits.deBruijn64tab"], apart := false, laid := [("math/bits.deBruijn64tab", laid_math_bits_deBruijn64tab)] }
def TotalAnySaid : Prop := totalAnyRow.holds Tryd.pinned (OpenSpec.ofChange totalAnySpec)

/-- ITS FALSE NEIGHBOUR: 'it returns false'. Refute it at one input. -/
def totalAnyWrong : ChangeSpec := { name := "totalAny", fn := fun _ => fun
  | [d1, d2] => { results := [.lit (.bool false)], args := [d1, d2] }
  | _ => none }
def TotalAnyWrongFalsely : Prop := totalAnyRow.holds Tryd.pinned (OpenSpec.ofChange totalAnyWrong)

/-- 'sextantlaw21.TotalRow': WHATEVER THE INPUT: true; the input reads as it did. -/
def totalRowSpec : ChangeSpec := { name := "totalRow", fn := fun _ => fun
  | [d] => { results := [.lit (.bool true)], args := [d] }
  | _ => none }
def totalRowRow : OpenClaim := { program := "ytmcghihgeibgpaadoor", sum := "90013c2602d752816a9e0f9ed01803d4725337a2a965d4e77098ad83b9f901d9", func := "sextant/sextantlaw21.TotalRow", spec := "totalRow", unfollowed := true, recurses := true, named := ["math/bits.deBruijn64tab"], apart := false, laid := [("math/bits.deBruijn64tab", laid_math_bits_deBruijn64tab)] }
def TotalRowSaid : Prop := totalRowRow.holds Tryd.pinned (OpenSpec.ofChange totalRowSpec)

/-- ITS FALSE NEIGHBOUR: 'it returns false'. Refute it at one input. -/
def totalRowWrong : ChangeSpec := { name := "totalRow", fn := fun _ => fun
  | [d] => { results := [.lit (.bool false)], args := [d] }
  | _ => none }
def TotalRowWrongFalsely : Prop := totalRowRow.holds Tryd.pinned (OpenSpec.ofChange totalRowWrong)

/-- 'sextantlaw12.SeqKnown': WHATEVER THE INPUT: true; the input reads as it did. -/
def seqKnownSpec : ChangeSpec := { name := "seqKnown", fn := fun _ => fun
  | [] => { results := [.lit (.bool true)], args := [] }
  | _ => none }
def seqKnownRow : OpenClaim := { program := "ytmcghihgeibgpaadoor", sum := "90013c2602d752816a9e0f9ed01803d4725337a2a965d4e77098ad83b9f901d9", func := "sextant/sextantlaw12.SeqKnown", spec := "seqKnown", unfollowed := true, recurses := true, named := ["math/bits.deBruijn64tab"], apart := false, laid := [("math/bits.deBruijn64tab", laid_math_bits_deBruijn64tab)] }
def SeqKnownSaid : Prop := seqKnownRow.holds Tryd.pinned (OpenSpec.ofChange seqKnownSpec)

/-- ITS FALSE NEIGHBOUR: 'it returns false'. Refute it at one input. -/
def seqKnownWrong : ChangeSpec := { name := "seqKnown", fn := fun _ => fun
  | [] => { results := [.lit (.bool false)], args := [] }
  | _ => none }
def SeqKnownWrongFalsely : Prop := seqKnownRow.holds Tryd.pinned (OpenSpec.ofChange seqKnownWrong)

/-- 'sextantlaw12.SeqWithin': WHATEVER THE INPUT: true; the input reads as it did. -/
def seqWithinSpec : ChangeSpec := { name := "seqWithin", fn := fun _ => fun
  | [d] => { results := [.lit (.bool true)], args := [d] }
  | _ => none }
def seqWithinRow : OpenClaim := { program := "ytmcghihgeibgpaadoor", sum := "90013c2602d752816a9e0f9ed01803d4725337a2a965d4e77098ad83b9f901d9", func := "sextant/sextantlaw12.SeqWithin", spec := "seqWithin", unfollowed := true, recurses := true, named := ["math/bits.deBruijn64tab"], apart := false, laid := [("math/bits.deBruijn64tab", laid_math_bits_deBruijn64tab)] }
def SeqWithinSaid : Prop := seqWithinRow.holds Tryd.pinned (OpenSpec.ofChange seqWithinSpec)

/-- ITS FALSE NEIGHBOUR: 'it returns false'. Refute it at one input. -/
def seqWithinWrong : ChangeSpec := { name := "seqWithin", fn := fun _ => fun
  | [d] => { results := [.lit (.bool false)], args := [d] }
  | _ => none }
def SeqWithinWrongFalsely : Prop := seqWithinRow.holds Tryd.pinned (OpenSpec.ofChange seqWithinWrong)

/-- 'sextantlaw12.SeqMapped': WHATEVER THE INPUT: true; the input reads as it did. -/
def seqMappedSpec : ChangeSpec := { name := "seqMapped", fn := fun _ => fun
  | [d1, d2] => { results := [.lit (.bool true)], args := [d1, d2] }
  | _ => none }
def seqMappedRow : OpenClaim := { program := "ytmcghihgeibgpaadoor", sum := "90013c2602d752816a9e0f9ed01803d4725337a2a965d4e77098ad83b9f901d9", func := "sextant/sextantlaw12.SeqMapped", spec := "seqMapped", unfollowed := true, recurses := true, named := ["math/bits.deBruijn64tab"], apart := false, laid := [("math/bits.deBruijn64tab", laid_math_bits_deBruijn64tab)] }
def SeqMappedSaid : Prop := seqMappedRow.holds Tryd.pinned (OpenSpec.ofChange seqMappedSpec)

/-- ITS FALSE NEIGHBOUR: 'it returns false'. Refute it at one input. -/
def seqMappedWrong : ChangeSpec := { name := "seqMapped", fn := fun _ => fun
  | [d1, d2] => { results := [.lit (.bool false)], args := [d1, d2] }
  | _ => none }
def SeqMappedWrongFalsely : Prop := seqMappedRow.holds Tryd.pinned (OpenSpec.ofChange seqMappedWrong)

/- THE SECOND FORM. 'bulk': how many values and letters a reading holds, each counted each time it is reached (what is shared counts as often as it is met; a slice's spare places count too). A statement '..UptoSaid' is the law's where the arguments, and the package variables that the reading takes, are together of bulk at most 1048576: NARROWER than '..Said'. Prove '..Said' where nothing that the law and all that it calls make is longer than what came in: it says more and counts as full. Else prove '..UptoSaid'. A law counts once. -/
mutual
def uptoBulk {H : Type} : DataW H → Nat
  | .lit (.string bytes) => bytes.length + 1
  | .lit _ => 1
  | .nil => 1
  | .ptr d => uptoBulk d + 1
  | .slice elems spare => uptoBulkAll elems + uptoBulkAll spare + 1
  | .agg parts => uptoBulkAll parts + 1
  | .iface _ d => uptoBulk d + 1
  | .map entries => uptoBulkEntries entries + 1
  | .held _ => 1
def uptoBulkAll {H : Type} : List (DataW H) → Nat
  | [] => 0
  | d :: r => uptoBulk d + uptoBulkAll r
def uptoBulkEntries {H : Type} : List (Lit × DataW H) → Nat
  | [] => 0
  | x :: r => uptoBulkEntry x + uptoBulkEntries r
def uptoBulkEntry {H : Type} : Lit × DataW H → Nat
  | (.string bytes, d) => bytes.length + uptoBulk d + 1
  | (_, d) => uptoBulk d + 1
 end
def uptoSmall : (H : Type) → List (DataW H) → Bool := fun _ ds => decide (uptoBulkAll ds ≤ 1048576)
def OpenSpec.upto (s : _root_.Go.ChangeSpec) : _root_.Go.OpenSpec := { _root_.Go.OpenSpec.ofChange s with cond := some uptoSmall }

/-- 'sextantlaw12.SeqMaps', WHERE WHAT IT READS IS OF BULK AT MOST 1048576: true; the input reads as it did. -/
def seqMapsUptoRow : OpenClaim := { program := "ytmcghihgeibgpaadoor", sum := "90013c2602d752816a9e0f9ed01803d4725337a2a965d4e77098ad83b9f901d9", func := "sextant/sextantlaw12.SeqMaps", spec := "seqMaps", unfollowed := true, recurses := true, named := ["math/bits.deBruijn64tab"], apart := false, laid := [("math/bits.deBruijn64tab", laid_math_bits_deBruijn64tab)], narrowed := true }
def SeqMapsUptoSaid : Prop := seqMapsUptoRow.holds Tryd.pinned (OpenSpec.upto seqMapsSpec)

/-- 'sextantlaw21.TotalKnown', WHERE WHAT IT READS IS OF BULK AT MOST 1048576: true; the input reads as it did. -/
def totalKnownUptoRow : OpenClaim := { program := "ytmcghihgeibgpaadoor", sum := "90013c2602d752816a9e0f9ed01803d4725337a2a965d4e77098ad83b9f901d9", func := "sextant/sextantlaw21.TotalKnown", spec := "totalKnown", unfollowed := true, recurses := true, named := ["math/bits.deBruijn64tab"], apart := false, laid := [("math/bits.deBruijn64tab", laid_math_bits_deBruijn64tab)], narrowed := true }
def TotalKnownUptoSaid : Prop := totalKnownUptoRow.holds Tryd.pinned (OpenSpec.upto totalKnownSpec)

/-- 'sextantlaw21.TotalOrders', WHERE WHAT IT READS IS OF BULK AT MOST 1048576: true; the input reads as it did. -/
def totalOrdersUptoRow : OpenClaim := { program := "ytmcghihgeibgpaadoor", sum := "90013c2602d752816a9e0f9ed01803d4725337a2a965d4e77098ad83b9f901d9", func := "sextant/sextantlaw21.TotalOrders", spec := "totalOrders", unfollowed := true, recurses := true, named := ["math/bits.deBruijn64tab"], apart := false, laid := [("math/bits.deBruijn64tab", laid_math_bits_deBruijn64tab)], narrowed := true }
def TotalOrdersUptoSaid : Prop := totalOrdersUptoRow.holds Tryd.pinned (OpenSpec.upto totalOrdersSpec)

/-- 'sextantlaw21.TotalReplays', WHERE WHAT IT READS IS OF BULK AT MOST 1048576: true; the input reads as it did. -/
def totalReplaysUptoRow : OpenClaim := { program := "ytmcghihgeibgpaadoor", sum := "90013c2602d752816a9e0f9ed01803d4725337a2a965d4e77098ad83b9f901d9", func := "sextant/sextantlaw21.TotalReplays", spec := "totalReplays", unfollowed := true, recurses := true, named := ["math/bits.deBruijn64tab"], apart := false, laid := [("math/bits.deBruijn64tab", laid_math_bits_deBruijn64tab)], narrowed := true }
def TotalReplaysUptoSaid : Prop := totalReplaysUptoRow.holds Tryd.pinned (OpenSpec.upto totalReplaysSpec)

/-- 'sextantlaw21.TotalAny', WHERE WHAT IT READS IS OF BULK AT MOST 1048576: true; the input reads as it did. -/
def totalAnyUptoRow : OpenClaim := { program := "ytmcghihgeibgpaadoor", sum := "90013c2602d752816a9e0f9ed01803d4725337a2a965d4e77098ad83b9f901d9", func := "sextant/sextantlaw21.TotalAny", spec := "totalAny", unfollowed := true, recurses := true, named := ["math/bits.deBruijn64tab"], apart := false, laid := [("math/bits.deBruijn64tab", laid_math_bits_deBruijn64tab)], narrowed := true }
def TotalAnyUptoSaid : Prop := totalAnyUptoRow.holds Tryd.pinned (OpenSpec.upto totalAnySpec)

/-- 'sextantlaw21.TotalRow', WHERE WHAT IT READS IS OF BULK AT MOST 1048576: true; the input reads as it did. -/
def totalRowUptoRow : OpenClaim := { program := "ytmcghihgeibgpaadoor", sum := "90013c2602d752816a9e0f9ed01803d4725337a2a965d4e77098ad83b9f901d9", func := "sextant/sextantlaw21.TotalRow", spec := "totalRow", unfollowed := true, recurses := true, named := ["math/bits.deBruijn64tab"], apart := false, laid := [("math/bits.deBruijn64tab", laid_math_bits_deBruijn64tab)], narrowed := true }
def TotalRowUptoSaid : Prop := totalRowUptoRow.holds Tryd.pinned (OpenSpec.upto totalRowSpec)

/-- 'sextantlaw12.SeqKnown', WHERE WHAT IT READS IS OF BULK AT MOST 1048576: true; the input reads as it did. -/
def seqKnownUptoRow : OpenClaim := { program := "ytmcghihgeibgpaadoor", sum := "90013c2602d752816a9e0f9ed01803d4725337a2a965d4e77098ad83b9f901d9", func := "sextant/sextantlaw12.SeqKnown", spec := "seqKnown", unfollowed := true, recurses := true, named := ["math/bits.deBruijn64tab"], apart := false, laid := [("math/bits.deBruijn64tab", laid_math_bits_deBruijn64tab)], narrowed := true }
def SeqKnownUptoSaid : Prop := seqKnownUptoRow.holds Tryd.pinned (OpenSpec.upto seqKnownSpec)

/-- 'sextantlaw12.SeqWithin', WHERE WHAT IT READS IS OF BULK AT MOST 1048576: true; the input reads as it did. -/
def seqWithinUptoRow : OpenClaim := { program := "ytmcghihgeibgpaadoor", sum := "90013c2602d752816a9e0f9ed01803d4725337a2a965d4e77098ad83b9f901d9", func := "sextant/sextantlaw12.SeqWithin", spec := "seqWithin", unfollowed := true, recurses := true, named := ["math/bits.deBruijn64tab"], apart := false, laid := [("math/bits.deBruijn64tab", laid_math_bits_deBruijn64tab)], narrowed := true }
def SeqWithinUptoSaid : Prop := seqWithinUptoRow.holds Tryd.pinned (OpenSpec.upto seqWithinSpec)

/-- 'sextantlaw12.SeqMapped', WHERE WHAT IT READS IS OF BULK AT MOST 1048576: true; the input reads as it did. -/
def seqMappedUptoRow : OpenClaim := { program := "ytmcghihgeibgpaadoor", sum := "90013c2602d752816a9e0f9ed01803d4725337a2a965d4e77098ad83b9f901d9", func := "sextant/sextantlaw12.SeqMapped", spec := "seqMapped", unfollowed := true, recurses := true, named := ["math/bits.deBruijn64tab"], apart := false, laid := [("math/bits.deBruijn64tab", laid_math_bits_deBruijn64tab)], narrowed := true }
def SeqMappedUptoSaid : Prop := seqMappedUptoRow.holds Tryd.pinned (OpenSpec.upto seqMappedSpec)

end Rows
end Go.Proofs.YtmcghihgeibgpaaDoor
