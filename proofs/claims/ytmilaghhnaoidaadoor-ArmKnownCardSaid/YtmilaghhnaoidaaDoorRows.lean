/-
  NARROWER THAN 'FOR EVERY INPUT', by the rows' own cells (each row's printed sentence says how): GraphChecks: laid · GraphDerives: laid · GraphSees: laid · GraphLaws: laid · GraphKnown: laid · ArmKnown: laid · ArmWeaker: laid · ArmLaws: laid.
  DERIVED. THE GIVEN ROWS OF THIS SEAT. 8 by the template 'for every input the law returns true; each argument reads behind the call as it read before'; 0 by the template 'total and deterministic' (their statements: YtmilaghhnaoidaaDoorTotals.lean).
  GIVEN WITH THE SEED: the statements are not yours to turn. If you find one false, say at which input.
  Laid BY PROGRAM, IN A SANDBOX (cutbox-rows.mjs): the forced cells as the released guide's own fill.sh prints them over the translation 0e3aba3fed2066a9… (all of the seat's roots in one cut). By AI agents, Wed Nov 11 2026. No macro, syntax, notation, axiom, sorry.
-/
import Derived.Test.YtmilaghhnaoidaaDoorChecked
import GoSem.Claim
import GoSem.ClaimJoined
import GoSem.ClaimMapViews
import Derived.JoinedTies
import Derived.KernelRfl
namespace Go.Proofs.YtmilaghhnaoidaaDoor
/- THE CELL 'sum', in the pinned program and in every row, IS THE sha256 OF THE DUMP (.gsa) THAT YtmilaghhnaoidaaDoorProg.lean LOADS. Nothing in Lean hashes anything: it is a label: what it is worth is what the hold of that sum in a sandbox is worth. -/
noncomputable def Tryd.pinned : Pinned := { name := "ytmilaghhnaoidaadoor", sum := "0e3aba3fed2066a9ab1edb33bb714f21265e3c8fcc2a4c736598e901dca18bc5", checked := Tryd.checked }
namespace Rows
def none {H : Type} : Left H := { results := [], args := [] }

/- WHAT THE LISTED PACKAGE-LEVEL VARIABLES READ AS WHEN THE CALL BEGINS. Each datum BY PROGRAM (the guide's laid-datum.mjs) off the statement by which the dump's own 'gosem.cut.vars' lays the variable. In a bare row this is a premise. The card (YtmilaghhnaoidaaDoorCards.lean) ties it to the program's text. -/
def laid_math_bits_deBruijn64tab {H : Type} : DataW H := .agg [.lit (.int .u8 0), .lit (.int .u8 1), .lit (.int .u8 56), .lit (.int .u8 2), .lit (.int .u8 57), .lit (.int .u8 49), .lit (.int .u8 28), .lit (.int .u8 3), .lit (.int .u8 61), .lit (.int .u8 58), .lit (.int .u8 42), .lit (.int .u8 50), .lit (.int .u8 38), .lit (.int .u8 29), .lit (.int .u8 17), .lit (.int .u8 4), .lit (.int .u8 62), .lit (.int .u8 47), .lit (.int .u8 59), .lit (.int .u8 36), .lit (.int .u8 45), .lit (.int .u8 43), .lit (.int .u8 51), .lit (.int .u8 22), .lit (.int .u8 53), .lit (.int .u8 39), .lit (.int .u8 33), .lit (.int .u8 30), .lit (.int .u8 24), .lit (.int .u8 18), .lit (.int .u8 12), .lit (.int .u8 5), .lit (.int .u8 63), .lit (.int .u8 55), .lit (.int .u8 48), .lit (.int .u8 27), .lit (.int .u8 60), .lit (.int .u8 41), .lit (.int .u8 37), .lit (.int .u8 16), .lit (.int .u8 46), .lit (.int .u8 35), .lit (.int .u8 44), .lit (.int .u8 21), .lit (.int .u8 52), .lit (.int .u8 32), .lit (.int .u8 23), .lit (.int .u8 11), .lit (.int .u8 54), .lit (.int .u8 26), .lit (.int .u8 40), .lit (.int .u8 15), .lit (.int .u8 34), .lit (.int .u8 20), .lit (.int .u8 31), .lit (.int .u8 10), .lit (.int .u8 25), .lit (.int .u8 14), .lit (.int .u8 19), .lit (.int .u8 9), .lit (.int .u8 13), .lit (.int .u8 8), .lit (.int .u8 7), .lit (.int .u8 6)]

/-- 'sextantlaw8.GraphChecks': WHATEVER THE INPUT: true; the input reads as it did. -/
def graphChecksSpec : ChangeSpec := { name := "graphChecks", fn := fun _ => fun
  | [d] => { results := [.lit (.bool true)], args := [d] }
  | _ => none }
def graphChecksRow : OpenClaim := { program := "ytmilaghhnaoidaadoor", sum := "0e3aba3fed2066a9ab1edb33bb714f21265e3c8fcc2a4c736598e901dca18bc5", func := "sextant/sextantlaw8.GraphChecks", spec := "graphChecks", unfollowed := true, recurses := true, named := ["math/bits.deBruijn64tab"], apart := false, laid := [("math/bits.deBruijn64tab", laid_math_bits_deBruijn64tab)] }
def GraphChecksSaid : Prop := graphChecksRow.holds Tryd.pinned (OpenSpec.ofChange graphChecksSpec)

/-- ITS FALSE NEIGHBOUR: 'it returns false'. Refute it at one input. -/
def graphChecksWrong : ChangeSpec := { name := "graphChecks", fn := fun _ => fun
  | [d] => { results := [.lit (.bool false)], args := [d] }
  | _ => none }
def GraphChecksWrongFalsely : Prop := graphChecksRow.holds Tryd.pinned (OpenSpec.ofChange graphChecksWrong)

/-- 'sextantlaw8.GraphDerives': WHATEVER THE INPUT: true; the input reads as it did. -/
def graphDerivesSpec : ChangeSpec := { name := "graphDerives", fn := fun _ => fun
  | [d] => { results := [.lit (.bool true)], args := [d] }
  | _ => none }
def graphDerivesRow : OpenClaim := { program := "ytmilaghhnaoidaadoor", sum := "0e3aba3fed2066a9ab1edb33bb714f21265e3c8fcc2a4c736598e901dca18bc5", func := "sextant/sextantlaw8.GraphDerives", spec := "graphDerives", unfollowed := true, recurses := true, named := ["math/bits.deBruijn64tab"], apart := false, laid := [("math/bits.deBruijn64tab", laid_math_bits_deBruijn64tab)] }
def GraphDerivesSaid : Prop := graphDerivesRow.holds Tryd.pinned (OpenSpec.ofChange graphDerivesSpec)

/-- ITS FALSE NEIGHBOUR: 'it returns false'. Refute it at one input. -/
def graphDerivesWrong : ChangeSpec := { name := "graphDerives", fn := fun _ => fun
  | [d] => { results := [.lit (.bool false)], args := [d] }
  | _ => none }
def GraphDerivesWrongFalsely : Prop := graphDerivesRow.holds Tryd.pinned (OpenSpec.ofChange graphDerivesWrong)

/-- 'sextantlaw8.GraphSees': WHATEVER THE INPUT: true; the input reads as it did. -/
def graphSeesSpec : ChangeSpec := { name := "graphSees", fn := fun _ => fun
  | [d1, d2, d3] => { results := [.lit (.bool true)], args := [d1, d2, d3] }
  | _ => none }
def graphSeesRow : OpenClaim := { program := "ytmilaghhnaoidaadoor", sum := "0e3aba3fed2066a9ab1edb33bb714f21265e3c8fcc2a4c736598e901dca18bc5", func := "sextant/sextantlaw8.GraphSees", spec := "graphSees", unfollowed := true, recurses := true, named := ["math/bits.deBruijn64tab"], apart := false, laid := [("math/bits.deBruijn64tab", laid_math_bits_deBruijn64tab)] }
def GraphSeesSaid : Prop := graphSeesRow.holds Tryd.pinned (OpenSpec.ofChange graphSeesSpec)

/-- ITS FALSE NEIGHBOUR: 'it returns false'. Refute it at one input. -/
def graphSeesWrong : ChangeSpec := { name := "graphSees", fn := fun _ => fun
  | [d1, d2, d3] => { results := [.lit (.bool false)], args := [d1, d2, d3] }
  | _ => none }
def GraphSeesWrongFalsely : Prop := graphSeesRow.holds Tryd.pinned (OpenSpec.ofChange graphSeesWrong)

/-- 'sextantlaw8.GraphLaws': WHATEVER THE INPUT: true; the input reads as it did. -/
def graphLawsSpec : ChangeSpec := { name := "graphLaws", fn := fun _ => fun
  | [d] => { results := [.lit (.bool true)], args := [d] }
  | _ => none }
def graphLawsRow : OpenClaim := { program := "ytmilaghhnaoidaadoor", sum := "0e3aba3fed2066a9ab1edb33bb714f21265e3c8fcc2a4c736598e901dca18bc5", func := "sextant/sextantlaw8.GraphLaws", spec := "graphLaws", unfollowed := true, recurses := true, named := ["math/bits.deBruijn64tab"], apart := false, laid := [("math/bits.deBruijn64tab", laid_math_bits_deBruijn64tab)] }
def GraphLawsSaid : Prop := graphLawsRow.holds Tryd.pinned (OpenSpec.ofChange graphLawsSpec)

/-- ITS FALSE NEIGHBOUR: 'it returns false'. Refute it at one input. -/
def graphLawsWrong : ChangeSpec := { name := "graphLaws", fn := fun _ => fun
  | [d] => { results := [.lit (.bool false)], args := [d] }
  | _ => none }
def GraphLawsWrongFalsely : Prop := graphLawsRow.holds Tryd.pinned (OpenSpec.ofChange graphLawsWrong)

/-- 'sextantlaw8.GraphKnown': WHATEVER THE INPUT: true; the input reads as it did. -/
def graphKnownSpec : ChangeSpec := { name := "graphKnown", fn := fun _ => fun
  | [] => { results := [.lit (.bool true)], args := [] }
  | _ => none }
def graphKnownRow : OpenClaim := { program := "ytmilaghhnaoidaadoor", sum := "0e3aba3fed2066a9ab1edb33bb714f21265e3c8fcc2a4c736598e901dca18bc5", func := "sextant/sextantlaw8.GraphKnown", spec := "graphKnown", unfollowed := true, recurses := true, named := ["math/bits.deBruijn64tab"], apart := false, laid := [("math/bits.deBruijn64tab", laid_math_bits_deBruijn64tab)] }
def GraphKnownSaid : Prop := graphKnownRow.holds Tryd.pinned (OpenSpec.ofChange graphKnownSpec)

/-- ITS FALSE NEIGHBOUR: 'it returns false'. Refute it at one input. -/
def graphKnownWrong : ChangeSpec := { name := "graphKnown", fn := fun _ => fun
  | [] => { results := [.lit (.bool false)], args := [] }
  | _ => none }
def GraphKnownWrongFalsely : Prop := graphKnownRow.holds Tryd.pinned (OpenSpec.ofChange graphKnownWrong)

/-- 'sextantlaw11.ArmKnown': WHATEVER THE INPUT: true; the input reads as it did. -/
def armKnownSpec : ChangeSpec := { name := "armKnown", fn := fun _ => fun
  | [] => { results := [.lit (.bool true)], args := [] }
  | _ => none }
def armKnownRow : OpenClaim := { program := "ytmilaghhnaoidaadoor", sum := "0e3aba3fed2066a9ab1edb33bb714f21265e3c8fcc2a4c736598e901dca18bc5", func := "sextant/sextantlaw11.ArmKnown", spec := "armKnown", unfollowed := true, recurses := true, named := ["math/bits.deBruijn64tab"], apart := false, laid := [("math/bits.deBruijn64tab", laid_math_bits_deBruijn64tab)] }
def ArmKnownSaid : Prop := armKnownRow.holds Tryd.pinned (OpenSpec.ofChange armKnownSpec)

/-- ITS FALSE NEIGHBOUR: 'it returns false'. Refute it at one input. -/
def armKnownWrong : ChangeSpec := { name := "armKnown", fn := fun _ => fun
  | [] => { results := [.lit (.bool false)], args := [] }
  | _ => none }
def ArmKnownWrongFalsely : Prop := armKnownRow.holds Tryd.pinned (OpenSpec.ofChange armKnownWrong)

/-- 'sextantlaw11.ArmWeaker': WHATEVER THE INPUT: true; the input reads as it did. -/
def armWeakerSpec : ChangeSpec := { name := "armWeaker", fn := fun _ => fun
  | [d1, d2, d3] => { results := [.lit (.bool true)], args := [d1, d2, d3] }
  | _ => none }
def armWeakerRow : OpenClaim := { program := "ytmilaghhnaoidaadoor", sum := "0e3aba3fed2066a9ab1edb33bb714f21265e3c8fcc2a4c736598e901dca18bc5", func := "sextant/sextantlaw11.ArmWeaker", spec := "armWeaker", unfollowed := true, recurses := true, named := ["math/bits.deBruijn64tab"], apart := false, laid := [("math/bits.deBruijn64tab", laid_math_bits_deBruijn64tab)] }
def ArmWeakerSaid : Prop := armWeakerRow.holds Tryd.pinned (OpenSpec.ofChange armWeakerSpec)

/-- ITS FALSE NEIGHBOUR: 'it returns false'. Refute it at one input. -/
def armWeakerWrong : ChangeSpec := { name := "armWeaker", fn := fun _ => fun
  | [d1, d2, d3] => { results := [.lit (.bool false)], args := [d1, d2, d3] }
  | _ => none }
def ArmWeakerWrongFalsely : Prop := armWeakerRow.holds Tryd.pinned (OpenSpec.ofChange armWeakerWrong)

/-- 'sextantlaw11.ArmLaws': WHATEVER THE INPUT: true; the input reads as it did. -/
def armLawsSpec : ChangeSpec := { name := "armLaws", fn := fun _ => fun
  | [d] => { results := [.lit (.bool true)], args := [d] }
  | _ => none }
def armLawsRow : OpenClaim := { program := "ytmilaghhnaoidaadoor", sum := "0e3aba3fed2066a9ab1edb33bb714f21265e3c8fcc2a4c736598e901dca18bc5", func := "sextant/sextantlaw11.ArmLaws", spec := "armLaws", unfollowed := true, recurses := true, named := ["math/bits.deBruijn64tab"], apart := false, laid := [("math/bits.deBruijn64tab", laid_math_bits_deBruijn64tab)] }
def ArmLawsSaid : Prop := armLawsRow.holds Tryd.pinned (OpenSpec.ofChange armLawsSpec)

/-- ITS FALSE NEIGHBOUR: 'it returns false'. Refute it at one input. -/
def armLawsWrong : ChangeSpec := { name := "armLaws", fn := fun _ => fun
  | [d] => { results := [.lit (.bool false)], args := [d] }
  | _ => none }
def ArmLawsWrongFalsely : Prop := armLawsRow.holds Tryd.pinned (OpenSpec.ofChange armLawsWrong)

/- THE SECOND FORM. 'bulk': how many values and letters a reading holds, each counted each time it is reached (what is shared counts as often as it is met; a slice's spare places count too). A statement '..UptoSaid' is the law's where the arguments, and the package variables that the reading takes, are together of bulk at most 1048576: NARROWER than '..Said'. Prove '..Said' where nothing that the law and all that it calls make is longer than what came in: it says more and counts as full. Else prove '..UptoSaid'. A law counts once. -/
mutual
def uptoBulk {H : Type} : DataW H → Nat
  | .lit (.string bytes) => bytes.length + 1
  | .lit _ => 1
  | .nil => 1
  | .ptr d => uptoBulk d + 1
  | .slice elems spare => uptoBulkAll elems + uptoBulkAll spare + 1
  | .agg parts => uptoBulkAll parts + 1
  | .iface _ d => uptoBulk d + 1
  | .map entries => uptoBulkEntries entries + 1
  | .held _ => 1
def uptoBulkAll {H : Type} : List (DataW H) → Nat
  | [] => 0
  | d :: r => uptoBulk d + uptoBulkAll r
def uptoBulkEntries {H : Type} : List (Lit × DataW H) → Nat
  | [] => 0
  | x :: r => uptoBulkEntry x + uptoBulkEntries r
def uptoBulkEntry {H : Type} : Lit × DataW H → Nat
  | (.string bytes, d) => bytes.length + uptoBulk d + 1
  | (_, d) => uptoBulk d + 1
 end
def uptoSmall : (H : Type) → List (DataW H) → Bool := fun _ ds => decide (uptoBulkAll ds ≤ 1048576)
def OpenSpec.upto (s : _root_.Go.ChangeSpec) : _root_.Go.OpenSpec := { _root_.Go.OpenSpec.ofChange s with cond := some uptoSmall }

/-- 'sextantlaw8.GraphChecks', WHERE WHAT IT READS IS OF BULK AT MOST 1048576: true; the input reads as it did. -/
def graphChecksUptoRow : OpenClaim := { program := "ytmilaghhnaoidaadoor", sum := "0e3aba3fed2066a9ab1edb33bb714f21265e3c8fcc2a4c736598e901dca18bc5", func := "sextant/sextantlaw8.GraphChecks", spec := "graphChecks", unfollowed := true, recurses := true, named := ["math/bits.deBruijn64tab"], apart := false, laid := [("math/bits.deBruijn64tab", laid_math_bits_deBruijn64tab)], narrowed := true }
def GraphChecksUptoSaid : Prop := graphChecksUptoRow.holds Tryd.pinned (OpenSpec.upto graphChecksSpec)

/-- 'sextantlaw8.GraphDerives', WHERE WHAT IT READS IS OF BULK AT MOST 1048576: true; the input reads as it did. -/
def graphDerivesUptoRow : OpenClaim := { program := "ytmilaghhnaoidaadoor", sum := "0e3aba3fed2066a9ab1edb33bb714f21265e3c8fcc2a4c736598e901dca18bc5", func := "sextant/sextantlaw8.GraphDerives", spec := "graphDerives", unfollowed := true, recurses := true, named := ["math/bits.deBruijn64tab"], apart := false, laid := [("math/bits.deBruijn64tab", laid_math_bits_deBruijn64tab)], narrowed := true }
def GraphDerivesUptoSaid : Prop := graphDerivesUptoRow.holds Tryd.pinned (OpenSpec.upto graphDerivesSpec)

/-- 'sextantlaw8.GraphSees', WHERE WHAT IT READS IS OF BULK AT MOST 1048576: true; the input reads as it did. -/
def graphSeesUptoRow : OpenClaim := { program := "ytmilaghhnaoidaadoor", sum := "0e3aba3fed2066a9ab1edb33bb714f21265e3c8fcc2a4c736598e901dca18bc5", func := "sextant/sextantlaw8.GraphSees", spec := "graphSees", unfollowed := true, recurses := true, named := ["math/bits.deBruijn64tab"], apart := false, laid := [("math/bits.deBruijn64tab", laid_math_bits_deBruijn64tab)], narrowed := true }
def GraphSeesUptoSaid : Prop := graphSeesUptoRow.holds Tryd.pinned (OpenSpec.upto graphSeesSpec)

/-- 'sextantlaw8.GraphLaws', WHERE WHAT IT READS IS OF BULK AT MOST 1048576: true; the input reads as it did. -/
def graphLawsUptoRow : OpenClaim := { program := "ytmilaghhnaoidaadoor", sum := "0e3aba3fed2066a9ab1edb33bb714f21265e3c8fcc2a4c736598e901dca18bc5", func := "sextant/sextantlaw8.GraphLaws", spec := "graphLaws", unfollowed := true, recurses := true, named := ["math/bits.deBruijn64tab"], apart := false, laid := [("math/bits.deBruijn64tab", laid_math_bits_deBruijn64tab)], narrowed := true }
def GraphLawsUptoSaid : Prop := graphLawsUptoRow.holds Tryd.pinned (OpenSpec.upto graphLawsSpec)

/-- 'sextantlaw8.GraphKnown', WHERE WHAT IT READS IS OF BULK AT MOST 1048576: true; the input reads as it did. -/
def graphKnownUptoRow : OpenClaim := { program := "ytmilaghhnaoidaadoor", sum := "0e3aba3fed2066a9ab1edb33bb714f21265e3c8fcc2a4c736598e901dca18bc5", func := "sextant/sextantlaw8.GraphKnown", spec := "graphKnown", unfollowed := true, recurses := true, named := ["math/bits.deBruijn64tab"], apart := false, laid := [("math/bits.deBruijn64tab", laid_math_bits_deBruijn64tab)], narrowed := true }
def GraphKnownUptoSaid : Prop := graphKnownUptoRow.holds Tryd.pinned (OpenSpec.upto graphKnownSpec)

/-- 'sextantlaw11.ArmKnown', WHERE WHAT IT READS IS OF BULK AT MOST 1048576: true; the input reads as it did. -/
def armKnownUptoRow : OpenClaim := { program := "ytmilaghhnaoidaadoor", sum := "0e3aba3fed2066a9ab1edb33bb714f21265e3c8fcc2a4c736598e901dca18bc5", func := "sextant/sextantlaw11.ArmKnown", spec := "armKnown", unfollowed := true, recurses := true, named := ["math/bits.deBruijn64tab"], apart := false, laid := [("math/bits.deBruijn64tab", laid_math_bits_deBruijn64tab)], narrowed := true }
def ArmKnownUptoSaid : Prop := armKnownUptoRow.holds Tryd.pinned (OpenSpec.upto armKnownSpec)

/-- 'sextantlaw11.ArmWeaker', WHERE WHAT IT READS IS OF BULK AT MOST 1048576: true; the input reads as it did. -/
def armWeakerUptoRow : OpenClaim := { program := "ytmilaghhnaoidaadoor", sum := "0e3aba3fed2066a9ab1edb33bb714f21265e3c8fcc2a4c736598e901dca18bc5", func := "sextant/sextantlaw11.ArmWeaker", spec := "armWeaker", unfollowed := true, recurses := true, named := ["math/bits.deBruijn64tab"], apart := false, laid := [("math/bits.deBruijn64tab", laid_math_bits_deBruijn64tab)], narrowed := true }
def ArmWeakerUptoSaid : Prop := armWeakerUptoRow.holds Tryd.pinned (OpenSpec.upto armWeakerSpec)

/-- 'sextantlaw11.ArmLaws', WHERE WHAT IT READS IS OF BULK AT MOST 1048576: true; the input reads as it did. -/
def armLawsUptoRow : OpenClaim := { program := "ytmilaghhnaoidaadoor", sum := "0e3aba3fed2066a9ab1edb33bb714f21265e3c8fcc2a4c736598e901dca18bc5", func := "sextant/sextantlaw11.ArmLaws", spec := "armLaws", unfollowed := true, recurses := true, named := ["math/bits.deBruijn64tab"], apart := false, laid := [("math/bits.deBruijn64tab", laid_math_bits_deBruijn64tab)], narrowed := true }
def ArmLawsUptoSaid : Prop := armLawsUptoRow.holds Tryd.pinned (OpenSpec.upto armLawsSpec)

end Rows
end Go.Proofs.YtmilaghhnaoidaaDoor
