/-
  NARROWER THAN 'FOR EVERY INPUT', by the rows' own cells (each row's printed sentence says how): OrderSorts: laid · OrderGlues: laid · RelCycles: laid · OrderExtends: laid · OrderAll: laid · RelLaws: laid · OrderParts: laid · OrderLaws: laid · RelKnown: laid · RelPlays: laid · OrderKnown: laid.
  DERIVED. THE GIVEN ROWS OF THIS SEAT. 11 by the template 'for every input the law returns true; each argument reads behind the call as it read before'; 0 by the template 'total and deterministic' (their statements: YtgedofjefepebaaDoorTotals.lean).
  GIVEN WITH THE SEED: the statements are not yours to turn. If you find one false, say at which input.
  Laid BY PROGRAM, IN A SANDBOX (cutbox-rows.mjs): the forced cells as the released guide's own fill.sh prints them over the translation dc7b939d35c12d9d… (all of the seat's roots in one cut). By AI agents, Wed Nov 11 2026. No macro, syntax, notation, axiom, sorry.
-/
import Derived.Test.YtgedofjefepebaaDoorChecked
import GoSem.Claim
import GoSem.ClaimJoined
import GoSem.ClaimMapViews
import Derived.JoinedTies
import Derived.KernelRfl
namespace Go.Proofs.YtgedofjefepebaaDoor
/- THE CELL 'sum', in the pinned program and in every row, IS THE sha256 OF THE DUMP (.gsa) THAT YtgedofjefepebaaDoorProg.lean LOADS. Nothing in Lean hashes anything: it is a label: what it is worth is what the hold of that sum in a sandbox is worth. -/
noncomputable def Tryd.pinned : Pinned := { name := "ytgedofjefepebaadoor", sum := "dc7b939d35c12d9de57a86bfb94812619467e81761890a9e4592bd4944af17c5", checked := Tryd.checked }
namespace Rows
def none {H : Type} : Left H := { results := [], args := [] }

/- WHAT THE LISTED PACKAGE-LEVEL VARIABLES READ AS WHEN THE CALL BEGINS. Each datum BY PROGRAM (the guide's laid-datum.mjs) off the statement by which the dump's own 'gosem.cut.vars' lays the variable. In a bare row this is a premise. The card (YtgedofjefepebaaDoorCards.lean) ties it to the program's text. -/
def laid_math_bits_deBruijn64tab {H : Type} : DataW H := .agg [.lit (.int .u8 0), .lit (.int .u8 1), .lit (.int .u8 56), .lit (.int .u8 2), .lit (.int .u8 57), .lit (.int .u8 49), .lit (.int .u8 28), .lit (.int .u8 3), .lit (.int .u8 61), .lit (.int .u8 58), .lit (.int .u8 42), .lit (.int .u8 50), .lit (.int .u8 38), .lit (.int .u8 29), .lit (.int .u8 17), .lit (.int .u8 4), .lit (.int .u8 62), .lit (.int .u8 47), .lit (.int .u8 59), .lit (.int .u8 36), .lit (.int .u8 45), .lit (.int .u8 43), .lit (.int .u8 51), .lit (.int .u8 22), .lit (.int .u8 53), .lit (.int .u8 39), .lit (.int .u8 33), .lit (.int .u8 30), .lit (.int .u8 24), .lit (.int .u8 18), .lit (.int .u8 12), .lit (.int .u8 5), .lit (.int .u8 63), .lit (.int .u8 55), .lit (.int .u8 48), .lit (.int .u8 27), .lit (.int .u8 60), .lit (.int .u8 41), .lit (.int .u8 37), .lit (.int .u8 16), .lit (.int .u8 46), .lit (.int .u8 35), .lit (.int .u8 44), .lit (.int .u8 21), .lit (.int .u8 52), .lit (.int .u8 32), .lit (.int .u8 23), .lit (.int .u8 11), .lit (.int .u8 54), .lit (.int .u8 26), .lit (.int .u8 40), .lit (.int .u8 15), .lit (.int .u8 34), .lit (.int .u8 20), .lit (.int .u8 31), .lit (.int .u8 10), .lit (.int .u8 25), .lit (.int .u8 14), .lit (.int .u8 19), .lit (.int .u8 9), .lit (.int .u8 13), .lit (.int .u8 8), .lit (.int .u8 7), .lit (.int .u8 6)]

/-- 'sextantlaw2.OrderSorts': WHATEVER THE INPUT: true; the input reads as it did. -/
def orderSortsSpec : ChangeSpec := { name := "orderSorts", fn := fun _ => fun
  | [d1, d2, d3] => { results := [.lit (.bool true)], args := [d1, d2, d3] }
  | _ => none }
def orderSortsRow : OpenClaim := { program := "ytgedofjefepebaadoor", sum := "dc7b939d35c12d9de57a86bfb94812619467e81761890a9e4592bd4944af17c5", func := "sextant/sextantlaw2.OrderSorts", spec := "orderSorts", unfollowed := true, recurses := true, named := ["math/bits.deBruijn64tab"], apart := false, laid := [("math/bits.deBruijn64tab", laid_math_bits_deBruijn64tab)] }
def OrderSortsSaid : Prop := orderSortsRow.holds Tryd.pinned (OpenSpec.ofChange orderSortsSpec)

/-- ITS FALSE NEIGHBOUR: 'it returns false'. Refute it at one input. -/
def orderSortsWrong : ChangeSpec := { name := "orderSorts", fn := fun _ => fun
  | [d1, d2, d3] => { results := [.lit (.bool false)], args := [d1, d2, d3] }
  | _ => none }
def OrderSortsWrongFalsely : Prop := orderSortsRow.holds Tryd.pinned (OpenSpec.ofChange orderSortsWrong)

/-- 'sextantlaw2.OrderGlues': WHATEVER THE INPUT: true; the input reads as it did. -/
def orderGluesSpec : ChangeSpec := { name := "orderGlues", fn := fun _ => fun
  | [d1, d2, d3] => { results := [.lit (.bool true)], args := [d1, d2, d3] }
  | _ => none }
def orderGluesRow : OpenClaim := { program := "ytgedofjefepebaadoor", sum := "dc7b939d35c12d9de57a86bfb94812619467e81761890a9e4592bd4944af17c5", func := "sextant/sextantlaw2.OrderGlues", spec := "orderGlues", unfollowed := true, recurses := true, named := ["math/bits.deBruijn64tab"], apart := false, laid := [("math/bits.deBruijn64tab", laid_math_bits_deBruijn64tab)] }
def OrderGluesSaid : Prop := orderGluesRow.holds Tryd.pinned (OpenSpec.ofChange orderGluesSpec)

/-- ITS FALSE NEIGHBOUR: 'it returns false'. Refute it at one input. -/
def orderGluesWrong : ChangeSpec := { name := "orderGlues", fn := fun _ => fun
  | [d1, d2, d3] => { results := [.lit (.bool false)], args := [d1, d2, d3] }
  | _ => none }
def OrderGluesWrongFalsely : Prop := orderGluesRow.holds Tryd.pinned (OpenSpec.ofChange orderGluesWrong)

/-- 'sextantlaw1.RelCycles': WHATEVER THE INPUT: true; the input reads as it did. -/
def relCyclesSpec : ChangeSpec := { name := "relCycles", fn := fun _ => fun
  | [d1, d2] => { results := [.lit (.bool true)], args := [d1, d2] }
  | _ => none }
def relCyclesRow : OpenClaim := { program := "ytgedofjefepebaadoor", sum := "dc7b939d35c12d9de57a86bfb94812619467e81761890a9e4592bd4944af17c5", func := "sextant/sextantlaw1.RelCycles", spec := "relCycles", unfollowed := true, recurses := true, named := ["math/bits.deBruijn64tab"], apart := false, laid := [("math/bits.deBruijn64tab", laid_math_bits_deBruijn64tab)] }
def RelCyclesSaid : Prop := relCyclesRow.holds Tryd.pinned (OpenSpec.ofChange relCyclesSpec)

/-- ITS FALSE NEIGHBOUR: 'it returns false'. Refute it at one input. -/
def relCyclesWrong : ChangeSpec := { name := "relCycles", fn := fun _ => fun
  | [d1, d2] => { results := [.lit (.bool false)], args := [d1, d2] }
  | _ => none }
def RelCyclesWrongFalsely : Prop := relCyclesRow.holds Tryd.pinned (OpenSpec.ofChange relCyclesWrong)

/-- 'sextantlaw2.OrderExtends': WHATEVER THE INPUT: true; the input reads as it did. -/
def orderExtendsSpec : ChangeSpec := { name := "orderExtends", fn := fun _ => fun
  | [d1, d2, d3] => { results := [.lit (.bool true)], args := [d1, d2, d3] }
  | _ => none }
def orderExtendsRow : OpenClaim := { program := "ytgedofjefepebaadoor", sum := "dc7b939d35c12d9de57a86bfb94812619467e81761890a9e4592bd4944af17c5", func := "sextant/sextantlaw2.OrderExtends", spec := "orderExtends", unfollowed := true, recurses := true, named := ["math/bits.deBruijn64tab"], apart := false, laid := [("math/bits.deBruijn64tab", laid_math_bits_deBruijn64tab)] }
def OrderExtendsSaid : Prop := orderExtendsRow.holds Tryd.pinned (OpenSpec.ofChange orderExtendsSpec)

/-- ITS FALSE NEIGHBOUR: 'it returns false'. Refute it at one input. -/
def orderExtendsWrong : ChangeSpec := { name := "orderExtends", fn := fun _ => fun
  | [d1, d2, d3] => { results := [.lit (.bool false)], args := [d1, d2, d3] }
  | _ => none }
def OrderExtendsWrongFalsely : Prop := orderExtendsRow.holds Tryd.pinned (OpenSpec.ofChange orderExtendsWrong)

/-- 'sextantlaw2.OrderAll': WHATEVER THE INPUT: true; the input reads as it did. -/
def orderAllSpec : ChangeSpec := { name := "orderAll", fn := fun _ => fun
  | [d1, d2, d3] => { results := [.lit (.bool true)], args := [d1, d2, d3] }
  | _ => none }
def orderAllRow : OpenClaim := { program := "ytgedofjefepebaadoor", sum := "dc7b939d35c12d9de57a86bfb94812619467e81761890a9e4592bd4944af17c5", func := "sextant/sextantlaw2.OrderAll", spec := "orderAll", unfollowed := true, recurses := true, named := ["math/bits.deBruijn64tab"], apart := false, laid := [("math/bits.deBruijn64tab", laid_math_bits_deBruijn64tab)] }
def OrderAllSaid : Prop := orderAllRow.holds Tryd.pinned (OpenSpec.ofChange orderAllSpec)

/-- ITS FALSE NEIGHBOUR: 'it returns false'. Refute it at one input. -/
def orderAllWrong : ChangeSpec := { name := "orderAll", fn := fun _ => fun
  | [d1, d2, d3] => { results := [.lit (.bool false)], args := [d1, d2, d3] }
  | _ => none }
def OrderAllWrongFalsely : Prop := orderAllRow.holds Tryd.pinned (OpenSpec.ofChange orderAllWrong)

/-- 'sextantlaw1.RelLaws': WHATEVER THE INPUT: true; the input reads as it did. -/
def relLawsSpec : ChangeSpec := { name := "relLaws", fn := fun _ => fun
  | [d1, d2, d3, d4] => { results := [.lit (.bool true)], args := [d1, d2, d3, d4] }
  | _ => none }
def relLawsRow : OpenClaim := { program := "ytgedofjefepebaadoor", sum := "dc7b939d35c12d9de57a86bfb94812619467e81761890a9e4592bd4944af17c5", func := "sextant/sextantlaw1.RelLaws", spec := "relLaws", unfollowed := true, recurses := true, named := ["math/bits.deBruijn64tab"], apart := false, laid := [("math/bits.deBruijn64tab", laid_math_bits_deBruijn64tab)] }
def RelLawsSaid : Prop := relLawsRow.holds Tryd.pinned (OpenSpec.ofChange relLawsSpec)

/-- ITS FALSE NEIGHBOUR: 'it returns false'. Refute it at one input. -/
def relLawsWrong : ChangeSpec := { name := "relLaws", fn := fun _ => fun
  | [d1, d2, d3, d4] => { results := [.lit (.bool false)], args := [d1, d2, d3, d4] }
  | _ => none }
def RelLawsWrongFalsely : Prop := relLawsRow.holds Tryd.pinned (OpenSpec.ofChange relLawsWrong)

/-- 'sextantlaw2.OrderParts': WHATEVER THE INPUT: true; the input reads as it did. -/
def orderPartsSpec : ChangeSpec := { name := "orderParts", fn := fun _ => fun
  | [d1, d2] => { results := [.lit (.bool true)], args := [d1, d2] }
  | _ => none }
def orderPartsRow : OpenClaim := { program := "ytgedofjefepebaadoor", sum := "dc7b939d35c12d9de57a86bfb94812619467e81761890a9e4592bd4944af17c5", func := "sextant/sextantlaw2.OrderParts", spec := "orderParts", unfollowed := true, recurses := true, named := ["math/bits.deBruijn64tab"], apart := false, laid := [("math/bits.deBruijn64tab", laid_math_bits_deBruijn64tab)] }
def OrderPartsSaid : Prop := orderPartsRow.holds Tryd.pinned (OpenSpec.ofChange orderPartsSpec)

/-- ITS FALSE NEIGHBOUR: 'it returns false'. Refute it at one input. -/
def orderPartsWrong : ChangeSpec := { name := "orderParts", fn := fun _ => fun
  | [d1, d2] => { results := [.lit (.bool false)], args := [d1, d2] }
  | _ => none }
def OrderPartsWrongFalsely : Prop := orderPartsRow.holds Tryd.pinned (OpenSpec.ofChange orderPartsWrong)

/-- 'sextantlaw2.OrderLaws': WHATEVER THE INPUT: true; the input reads as it did. -/
def orderLawsSpec : ChangeSpec := { name := "orderLaws", fn := fun _ => fun
  | [d1, d2, d3] => { results := [.lit (.bool true)], args := [d1, d2, d3] }
  | _ => none }
def orderLawsRow : OpenClaim := { program := "ytgedofjefepebaadoor", sum := "dc7b939d35c12d9de57a86bfb94812619467e81761890a9e4592bd4944af17c5", func := "sextant/sextantlaw2.OrderLaws", spec := "orderLaws", unfollowed := true, recurses := true, named := ["math/bits.deBruijn64tab"], apart := false, laid := [("math/bits.deBruijn64tab", laid_math_bits_deBruijn64tab)] }
def OrderLawsSaid : Prop := orderLawsRow.holds Tryd.pinned (OpenSpec.ofChange orderLawsSpec)

/-- ITS FALSE NEIGHBOUR: 'it returns false'. Refute it at one input. -/
def orderLawsWrong : ChangeSpec := { name := "orderLaws", fn := fun _ => fun
  | [d1, d2, d3] => { results := [.lit (.bool false)], args := [d1, d2, d3] }
  | _ => none }
def OrderLawsWrongFalsely : Prop := orderLawsRow.holds Tryd.pinned (OpenSpec.ofChange orderLawsWrong)

/-- 'sextantlaw1.RelKnown': WHATEVER THE INPUT: true; the input reads as it did. -/
def relKnownSpec : ChangeSpec := { name := "relKnown", fn := fun _ => fun
  | [] => { results := [.lit (.bool true)], args := [] }
  | _ => none }
def relKnownRow : OpenClaim := { program := "ytgedofjefepebaadoor", sum := "dc7b939d35c12d9de57a86bfb94812619467e81761890a9e4592bd4944af17c5", func := "sextant/sextantlaw1.RelKnown", spec := "relKnown", unfollowed := true, recurses := true, named := ["math/bits.deBruijn64tab"], apart := false, laid := [("math/bits.deBruijn64tab", laid_math_bits_deBruijn64tab)] }
def RelKnownSaid : Prop := relKnownRow.holds Tryd.pinned (OpenSpec.ofChange relKnownSpec)

/-- ITS FALSE NEIGHBOUR: 'it returns false'. Refute it at one input. -/
def relKnownWrong : ChangeSpec := { name := "relKnown", fn := fun _ => fun
  | [] => { results := [.lit (.bool false)], args := [] }
  | _ => none }
def RelKnownWrongFalsely : Prop := relKnownRow.holds Tryd.pinned (OpenSpec.ofChange relKnownWrong)

/-- 'sextantlaw1.RelPlays': WHATEVER THE INPUT: true; the input reads as it did. -/
def relPlaysSpec : ChangeSpec := { name := "relPlays", fn := fun _ => fun
  | [d] => { results := [.lit (.bool true)], args := [d] }
  | _ => none }
def relPlaysRow : OpenClaim := { program := "ytgedofjefepebaadoor", sum := "dc7b939d35c12d9de57a86bfb94812619467e81761890a9e4592bd4944af17c5", func := "sextant/sextantlaw1.RelPlays", spec := "relPlays", unfollowed := true, recurses := true, named := ["math/bits.deBruijn64tab"], apart := false, laid := [("math/bits.deBruijn64tab", laid_math_bits_deBruijn64tab)] }
def RelPlaysSaid : Prop := relPlaysRow.holds Tryd.pinned (OpenSpec.ofChange relPlaysSpec)

/-- ITS FALSE NEIGHBOUR: 'it returns false'. Refute it at one input. -/
def relPlaysWrong : ChangeSpec := { name := "relPlays", fn := fun _ => fun
  | [d] => { results := [.lit (.bool false)], args := [d] }
  | _ => none }
def RelPlaysWrongFalsely : Prop := relPlaysRow.holds Tryd.pinned (OpenSpec.ofChange relPlaysWrong)

/-- 'sextantlaw2.OrderKnown': WHATEVER THE INPUT: true; the input reads as it did. -/
def orderKnownSpec : ChangeSpec := { name := "orderKnown", fn := fun _ => fun
  | [] => { results := [.lit (.bool true)], args := [] }
  | _ => none }
def orderKnownRow : OpenClaim := { program := "ytgedofjefepebaadoor", sum := "dc7b939d35c12d9de57a86bfb94812619467e81761890a9e4592bd4944af17c5", func := "sextant/sextantlaw2.OrderKnown", spec := "orderKnown", unfollowed := true, recurses := true, named := ["math/bits.deBruijn64tab"], apart := false, laid := [("math/bits.deBruijn64tab", laid_math_bits_deBruijn64tab)] }
def OrderKnownSaid : Prop := orderKnownRow.holds Tryd.pinned (OpenSpec.ofChange orderKnownSpec)

/-- ITS FALSE NEIGHBOUR: 'it returns false'. Refute it at one input. -/
def orderKnownWrong : ChangeSpec := { name := "orderKnown", fn := fun _ => fun
  | [] => { results := [.lit (.bool false)], args := [] }
  | _ => none }
def OrderKnownWrongFalsely : Prop := orderKnownRow.holds Tryd.pinned (OpenSpec.ofChange orderKnownWrong)

/- THE SECOND FORM. 'bulk': how many values and letters a reading holds, each counted each time it is reached (what is shared counts as often as it is met; a slice's spare places count too). A statement '..UptoSaid' is the law's where the arguments, and the package variables that the reading takes, are together of bulk at most 1048576: NARROWER than '..Said'. Prove '..Said' where nothing that the law and all that it calls make is longer than what came in: it says more and counts as full. Else prove '..UptoSaid'. A law counts once. -/
mutual
def uptoBulk {H : Type} : DataW H → Nat
  | .lit (.string bytes) => bytes.length + 1
  | .lit _ => 1
  | .nil => 1
  | .ptr d => uptoBulk d + 1
  | .slice elems spare => uptoBulkAll elems + uptoBulkAll spare + 1
  | .agg parts => uptoBulkAll parts + 1
  | .iface _ d => uptoBulk d + 1
  | .map entries => uptoBulkEntries entries + 1
  | .held _ => 1
def uptoBulkAll {H : Type} : List (DataW H) → Nat
  | [] => 0
  | d :: r => uptoBulk d + uptoBulkAll r
def uptoBulkEntries {H : Type} : List (Lit × DataW H) → Nat
  | [] => 0
  | x :: r => uptoBulkEntry x + uptoBulkEntries r
def uptoBulkEntry {H : Type} : Lit × DataW H → Nat
  | (.string bytes, d) => bytes.length + uptoBulk d + 1
  | (_, d) => uptoBulk d + 1
 end
def uptoSmall : (H : Type) → List (DataW H) → Bool := fun _ ds => decide (uptoBulkAll ds ≤ 1048576)
def OpenSpec.upto (s : _root_.Go.ChangeSpec) : _root_.Go.OpenSpec := { _root_.Go.OpenSpec.ofChange s with cond := some uptoSmall }

/-- 'sextantlaw2.OrderSorts', WHERE WHAT IT READS IS OF BULK AT MOST 1048576: true; the input reads as it did. -/
def orderSortsUptoRow : OpenClaim := { program := "ytgedofjefepebaadoor", sum := "dc7b939d35c12d9de57a86bfb94812619467e81761890a9e4592bd4944af17c5", func := "sextant/sextantlaw2.OrderSorts", spec := "orderSorts", unfollowed := true, recurses := true, named := ["math/bits.deBruijn64tab"], apart := false, laid := [("math/bits.deBruijn64tab", laid_math_bits_deBruijn64tab)], narrowed := true }
def OrderSortsUptoSaid : Prop := orderSortsUptoRow.holds Tryd.pinned (OpenSpec.upto orderSortsSpec)

/-- 'sextantlaw2.OrderGlues', WHERE WHAT IT READS IS OF BULK AT MOST 1048576: true; the input reads as it did. -/
def orderGluesUptoRow : OpenClaim := { program := "ytgedofjefepebaadoor", sum := "dc7b939d35c12d9de57a86bfb94812619467e81761890a9e4592bd4944af17c5", func := "sextant/sextantlaw2.OrderGlues", spec := "orderGlues", unfollowed := true, recurses := true, named := ["math/bits.deBruijn64tab"], apart := false, laid := [("math/bits.deBruijn64tab", laid_math_bits_deBruijn64tab)], narrowed := true }
def OrderGluesUptoSaid : Prop := orderGluesUptoRow.holds Tryd.pinned (OpenSpec.upto orderGluesSpec)

/-- 'sextantlaw1.RelCycles', WHERE WHAT IT READS IS OF BULK AT MOST 1048576: true; the input reads as it did. -/
def relCyclesUptoRow : OpenClaim := { program := "ytgedofjefepebaadoor", sum := "dc7b939d35c12d9de57a86bfb94812619467e81761890a9e4592bd4944af17c5", func := "sextant/sextantlaw1.RelCycles", spec := "relCycles", unfollowed := true, recurses := true, named := ["math/bits.deBruijn64tab"], apart := false, laid := [("math/bits.deBruijn64tab", laid_math_bits_deBruijn64tab)], narrowed := true }
def RelCyclesUptoSaid : Prop := relCyclesUptoRow.holds Tryd.pinned (OpenSpec.upto relCyclesSpec)

/-- 'sextantlaw2.OrderExtends', WHERE WHAT IT READS IS OF BULK AT MOST 1048576: true; the input reads as it did. -/
def orderExtendsUptoRow : OpenClaim := { program := "ytgedofjefepebaadoor", sum := "dc7b939d35c12d9de57a86bfb94812619467e81761890a9e4592bd4944af17c5", func := "sextant/sextantlaw2.OrderExtends", spec := "orderExtends", unfollowed := true, recurses := true, named := ["math/bits.deBruijn64tab"], apart := false, laid := [("math/bits.deBruijn64tab", laid_math_bits_deBruijn64tab)], narrowed := true }
def OrderExtendsUptoSaid : Prop := orderExtendsUptoRow.holds Tryd.pinned (OpenSpec.upto orderExtendsSpec)

/-- 'sextantlaw2.OrderAll', WHERE WHAT IT READS IS OF BULK AT MOST 1048576: true; the input reads as it did. -/
def orderAllUptoRow : OpenClaim := { program := "ytgedofjefepebaadoor", sum := "dc7b939d35c12d9de57a86bfb94812619467e81761890a9e4592bd4944af17c5", func := "sextant/sextantlaw2.OrderAll", spec := "orderAll", unfollowed := true, recurses := true, named := ["math/bits.deBruijn64tab"], apart := false, laid := [("math/bits.deBruijn64tab", laid_math_bits_deBruijn64tab)], narrowed := true }
def OrderAllUptoSaid : Prop := orderAllUptoRow.holds Tryd.pinned (OpenSpec.upto orderAllSpec)

/-- 'sextantlaw1.RelLaws', WHERE WHAT IT READS IS OF BULK AT MOST 1048576: true; the input reads as it did. -/
def relLawsUptoRow : OpenClaim := { program := "ytgedofjefepebaadoor", sum := "dc7b939d35c12d9de57a86bfb94812619467e81761890a9e4592bd4944af17c5", func := "sextant/sextantlaw1.RelLaws", spec := "relLaws", unfollowed := true, recurses := true, named := ["math/bits.deBruijn64tab"], apart := false, laid := [("math/bits.deBruijn64tab", laid_math_bits_deBruijn64tab)], narrowed := true }
def RelLawsUptoSaid : Prop := relLawsUptoRow.holds Tryd.pinned (OpenSpec.upto relLawsSpec)

/-- 'sextantlaw2.OrderParts', WHERE WHAT IT READS IS OF BULK AT MOST 1048576: true; the input reads as it did. -/
def orderPartsUptoRow : OpenClaim := { program := "ytgedofjefepebaadoor", sum := "dc7b939d35c12d9de57a86bfb94812619467e81761890a9e4592bd4944af17c5", func := "sextant/sextantlaw2.OrderParts", spec := "orderParts", unfollowed := true, recurses := true, named := ["math/bits.deBruijn64tab"], apart := false, laid := [("math/bits.deBruijn64tab", laid_math_bits_deBruijn64tab)], narrowed := true }
def OrderPartsUptoSaid : Prop := orderPartsUptoRow.holds Tryd.pinned (OpenSpec.upto orderPartsSpec)

/-- 'sextantlaw2.OrderLaws', WHERE WHAT IT READS IS OF BULK AT MOST 1048576: true; the input reads as it did. -/
def orderLawsUptoRow : OpenClaim := { program := "ytgedofjefepebaadoor", sum := "dc7b939d35c12d9de57a86bfb94812619467e81761890a9e4592bd4944af17c5", func := "sextant/sextantlaw2.OrderLaws", spec := "orderLaws", unfollowed := true, recurses := true, named := ["math/bits.deBruijn64tab"], apart := false, laid := [("math/bits.deBruijn64tab", laid_math_bits_deBruijn64tab)], narrowed := true }
def OrderLawsUptoSaid : Prop := orderLawsUptoRow.holds Tryd.pinned (OpenSpec.upto orderLawsSpec)

/-- 'sextantlaw1.RelKnown', WHERE WHAT IT READS IS OF BULK AT MOST 1048576: true; the input reads as it did. -/
def relKnownUptoRow : OpenClaim := { program := "ytgedofjefepebaadoor", sum := "dc7b939d35c12d9de57a86bfb94812619467e81761890a9e4592bd4944af17c5", func := "sextant/sextantlaw1.RelKnown", spec := "relKnown", unfollowed := true, recurses := true, named := ["math/bits.deBruijn64tab"], apart := false, laid := [("math/bits.deBruijn64tab", laid_math_bits_deBruijn64tab)], narrowed := true }
def RelKnownUptoSaid : Prop := relKnownUptoRow.holds Tryd.pinned (OpenSpec.upto relKnownSpec)

/-- 'sextantlaw1.RelPlays', WHERE WHAT IT READS IS OF BULK AT MOST 1048576: true; the input reads as it did. -/
def relPlaysUptoRow : OpenClaim := { program := "ytgedofjefepebaadoor", sum := "dc7b939d35c12d9de57a86bfb94812619467e81761890a9e4592bd4944af17c5", func := "sextant/sextantlaw1.RelPlays", spec := "relPlays", unfollowed := true, recurses := true, named := ["math/bits.deBruijn64tab"], apart := false, laid := [("math/bits.deBruijn64tab", laid_math_bits_deBruijn64tab)], narrowed := true }
def RelPlaysUptoSaid : Prop := relPlaysUptoRow.holds Tryd.pinned (OpenSpec.upto relPlaysSpec)

/-- 'sextantlaw2.OrderKnown', WHERE WHAT IT READS IS OF BULK AT MOST 1048576: true; the input reads as it did. -/
def orderKnownUptoRow : OpenClaim := { program := "ytgedofjefepebaadoor", sum := "dc7b939d35c12d9de57a86bfb94812619467e81761890a9e4592bd4944af17c5", func := "sextant/sextantlaw2.OrderKnown", spec := "orderKnown", unfollowed := true, recurses := true, named := ["math/bits.deBruijn64tab"], apart := false, laid := [("math/bits.deBruijn64tab", laid_math_bits_deBruijn64tab)], narrowed := true }
def OrderKnownUptoSaid : Prop := orderKnownUptoRow.holds Tryd.pinned (OpenSpec.upto orderKnownSpec)

end Rows
end Go.Proofs.YtgedofjefepebaaDoor
