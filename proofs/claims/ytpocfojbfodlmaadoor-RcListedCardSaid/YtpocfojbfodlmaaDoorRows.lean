/-
  NARROWER THAN 'FOR EVERY INPUT', by the rows' own cells (each row's printed sentence says how): RcKnown: laid · RcWeaker: laid · RcListed: laid · RcLaws: laid.
  DERIVED. THE GIVEN ROWS OF THIS SEAT. 4 by the template 'for every input the law returns true; each argument reads behind the call as it read before'; 0 by the template 'total and deterministic' (their statements: YtpocfojbfodlmaaDoorTotals.lean).
  GIVEN WITH THE SEED: the statements are not yours to turn. If you find one false, say at which input.
  Laid BY PROGRAM, IN A SANDBOX (cutbox-rows.mjs): the forced cells as the released guide's own fill.sh prints them over the translation fc1e736c79dc2ebe… (all of the seat's roots in one cut). By AI agents, Wed Nov 11 2026. No macro, syntax, notation, axiom, sorry.
-/
import Derived.Test.YtpocfojbfodlmaaDoorChecked
import GoSem.Claim
import GoSem.ClaimJoined
import GoSem.ClaimMapViews
import Derived.JoinedTies
import Derived.KernelRfl
namespace Go.Proofs.YtpocfojbfodlmaaDoor
/- THE CELL 'sum', in the pinned program and in every row, IS THE sha256 OF THE DUMP (.gsa) THAT YtpocfojbfodlmaaDoorProg.lean LOADS. Nothing in Lean hashes anything: it is a label: what it is worth is what the hold of that sum in a sandbox is worth. -/
noncomputable def Tryd.pinned : Pinned := { name := "ytpocfojbfodlmaadoor", sum := "fc1e736c79dc2ebe334f9fa6e3f53ea084b93a1a659e53ff169c8eaef55c5ef9", checked := Tryd.checked }
namespace Rows
def none {H : Type} : Left H := { results := [], args := [] }

/- WHAT THE LISTED PACKAGE-LEVEL VARIABLES READ AS WHEN THE CALL BEGINS. Each datum BY PROGRAM (the guide's laid-datum.mjs) off the statement by which the dump's own 'gosem.cut.vars' lays the variable. In a bare row this is a premise. The card (YtpocfojbfodlmaaDoorCards.lean) ties it to the program's text. -/
def laid_math_bits_deBruijn64tab {H : Type} : DataW H := .agg [.lit (.int .u8 0), .lit (.int .u8 1), .lit (.int .u8 56), .lit (.int .u8 2), .lit (.int .u8 57), .lit (.int .u8 49), .lit (.int .u8 28), .lit (.int .u8 3), .lit (.int .u8 61), .lit (.int .u8 58), .lit (.int .u8 42), .lit (.int .u8 50), .lit (.int .u8 38), .lit (.int .u8 29), .lit (.int .u8 17), .lit (.int .u8 4), .lit (.int .u8 62), .lit (.int .u8 47), .lit (.int .u8 59), .lit (.int .u8 36), .lit (.int .u8 45), .lit (.int .u8 43), .lit (.int .u8 51), .lit (.int .u8 22), .lit (.int .u8 53), .lit (.int .u8 39), .lit (.int .u8 33), .lit (.int .u8 30), .lit (.int .u8 24), .lit (.int .u8 18), .lit (.int .u8 12), .lit (.int .u8 5), .lit (.int .u8 63), .lit (.int .u8 55), .lit (.int .u8 48), .lit (.int .u8 27), .lit (.int .u8 60), .lit (.int .u8 41), .lit (.int .u8 37), .lit (.int .u8 16), .lit (.int .u8 46), .lit (.int .u8 35), .lit (.int .u8 44), .lit (.int .u8 21), .lit (.int .u8 52), .lit (.int .u8 32), .lit (.int .u8 23), .lit (.int .u8 11), .lit (.int .u8 54), .lit (.int .u8 26), .lit (.int .u8 40), .lit (.int .u8 15), .lit (.int .u8 34), .lit (.int .u8 20), .lit (.int .u8 31), .lit (.int .u8 10), .lit (.int .u8 25), .lit (.int .u8 14), .lit (.int .u8 19), .lit (.int .u8 9), .lit (.int .u8 13), .lit (.int .u8 8), .lit (.int .u8 7), .lit (.int .u8 6)]

/-- 'sextantlaw10.RcKnown': WHATEVER THE INPUT: true; the input reads as it did. -/
def rcKnownSpec : ChangeSpec := { name := "rcKnown", fn := fun _ => fun
  | [] => { results := [.lit (.bool true)], args := [] }
  | _ => none }
def rcKnownRow : OpenClaim := { program := "ytpocfojbfodlmaadoor", sum := "fc1e736c79dc2ebe334f9fa6e3f53ea084b93a1a659e53ff169c8eaef55c5ef9", func := "sextant/sextantlaw10.RcKnown", spec := "rcKnown", unfollowed := true, recurses := true, named := ["math/bits.deBruijn64tab"], apart := false, laid := [("math/bits.deBruijn64tab", laid_math_bits_deBruijn64tab)] }
def RcKnownSaid : Prop := rcKnownRow.holds Tryd.pinned (OpenSpec.ofChange rcKnownSpec)

/-- ITS FALSE NEIGHBOUR: 'it returns false'. Refute it at one input. -/
def rcKnownWrong : ChangeSpec := { name := "rcKnown", fn := fun _ => fun
  | [] => { results := [.lit (.bool false)], args := [] }
  | _ => none }
def RcKnownWrongFalsely : Prop := rcKnownRow.holds Tryd.pinned (OpenSpec.ofChange rcKnownWrong)

/-- 'sextantlaw10.RcWeaker': WHATEVER THE INPUT: true; the input reads as it did. -/
def rcWeakerSpec : ChangeSpec := { name := "rcWeaker", fn := fun _ => fun
  | [d1, d2] => { results := [.lit (.bool true)], args := [d1, d2] }
  | _ => none }
def rcWeakerRow : OpenClaim := { program := "ytpocfojbfodlmaadoor", sum := "fc1e736c79dc2ebe334f9fa6e3f53ea084b93a1a659e53ff169c8eaef55c5ef9", func := "sextant/sextantlaw10.RcWeaker", spec := "rcWeaker", unfollowed := true, recurses := true, named := ["math/bits.deBruijn64tab"], apart := false, laid := [("math/bits.deBruijn64tab", laid_math_bits_deBruijn64tab)] }
def RcWeakerSaid : Prop := rcWeakerRow.holds Tryd.pinned (OpenSpec.ofChange rcWeakerSpec)

/-- ITS FALSE NEIGHBOUR: 'it returns false'. Refute it at one input. -/
def rcWeakerWrong : ChangeSpec := { name := "rcWeaker", fn := fun _ => fun
  | [d1, d2] => { results := [.lit (.bool false)], args := [d1, d2] }
  | _ => none }
def RcWeakerWrongFalsely : Prop := rcWeakerRow.holds Tryd.pinned (OpenSpec.ofChange rcWeakerWrong)

/-- 'sextantlaw10.RcListed': WHATEVER THE INPUT: true; the input reads as it did. -/
def rcListedSpec : ChangeSpec := { name := "rcListed", fn := fun _ => fun
  | [d1, d2] => { results := [.lit (.bool true)], args := [d1, d2] }
  | _ => none }
def rcListedRow : OpenClaim := { program := "ytpocfojbfodlmaadoor", sum := "fc1e736c79dc2ebe334f9fa6e3f53ea084b93a1a659e53ff169c8eaef55c5ef9", func := "sextant/sextantlaw10.RcListed", spec := "rcListed", unfollowed := true, recurses := true, named := ["math/bits.deBruijn64tab"], apart := false, laid := [("math/bits.deBruijn64tab", laid_math_bits_deBruijn64tab)] }
def RcListedSaid : Prop := rcListedRow.holds Tryd.pinned (OpenSpec.ofChange rcListedSpec)

/-- ITS FALSE NEIGHBOUR: 'it returns false'. Refute it at one input. -/
def rcListedWrong : ChangeSpec := { name := "rcListed", fn := fun _ => fun
  | [d1, d2] => { results := [.lit (.bool false)], args := [d1, d2] }
  | _ => none }
def RcListedWrongFalsely : Prop := rcListedRow.holds Tryd.pinned (OpenSpec.ofChange rcListedWrong)

/-- 'sextantlaw10.RcLaws': WHATEVER THE INPUT: true; the input reads as it did. -/
def rcLawsSpec : ChangeSpec := { name := "rcLaws", fn := fun _ => fun
  | [d] => { results := [.lit (.bool true)], args := [d] }
  | _ => none }
def rcLawsRow : OpenClaim := { program := "ytpocfojbfodlmaadoor", sum := "fc1e736c79dc2ebe334f9fa6e3f53ea084b93a1a659e53ff169c8eaef55c5ef9", func := "sextant/sextantlaw10.RcLaws", spec := "rcLaws", unfollowed := true, recurses := true, named := ["math/bits.deBruijn64tab"], apart := false, laid := [("math/bits.deBruijn64tab", laid_math_bits_deBruijn64tab)] }
def RcLawsSaid : Prop := rcLawsRow.holds Tryd.pinned (OpenSpec.ofChange rcLawsSpec)

/-- ITS FALSE NEIGHBOUR: 'it returns false'. Refute it at one input. -/
def rcLawsWrong : ChangeSpec := { name := "rcLaws", fn := fun _ => fun
  | [d] => { results := [.lit (.bool false)], args := [d] }
  | _ => none }
def RcLawsWrongFalsely : Prop := rcLawsRow.holds Tryd.pinned (OpenSpec.ofChange rcLawsWrong)

/- THE SECOND FORM. 'bulk': how many values and letters a reading holds, each counted each time it is reached (what is shared counts as often as it is met; a slice's spare places count too). A statement '..UptoSaid' is the law's where the arguments, and the package variables that the reading takes, are together of bulk at most 1048576: NARROWER than '..Said'. Prove '..Said' where nothing that the law and all that it calls make is longer than what came in: it says more and counts as full. Else prove '..UptoSaid'. A law counts once. -/
mutual
def uptoBulk {H : Type} : DataW H → Nat
  | .lit (.string bytes) => bytes.length + 1
  | .lit _ => 1
  | .nil => 1
  | .ptr d => uptoBulk d + 1
  | .slice elems spare => uptoBulkAll elems + uptoBulkAll spare + 1
  | .agg parts => uptoBulkAll parts + 1
  | .iface _ d => uptoBulk d + 1
  | .map entries => uptoBulkEntries entries + 1
  | .held _ => 1
def uptoBulkAll {H : Type} : List (DataW H) → Nat
  | [] => 0
  | d :: r => uptoBulk d + uptoBulkAll r
def uptoBulkEntries {H : Type} : List (Lit × DataW H) → Nat
  | [] => 0
  | x :: r => uptoBulkEntry x + uptoBulkEntries r
def uptoBulkEntry {H : Type} : Lit × DataW H → Nat
  | (.string bytes, d) => bytes.length + uptoBulk d + 1
  | (_, d) => uptoBulk d + 1
 end
def uptoSmall : (H : Type) → List (DataW H) → Bool := fun _ ds => decide (uptoBulkAll ds ≤ 1048576)
def OpenSpec.upto (s : _root_.Go.ChangeSpec) : _root_.Go.OpenSpec := { _root_.Go.OpenSpec.ofChange s with cond := some uptoSmall }

/-- 'sextantlaw10.RcKnown', WHERE WHAT IT READS IS OF BULK AT MOST 1048576: true; the input reads as it did. -/
def rcKnownUptoRow : OpenClaim := { program := "ytpocfojbfodlmaadoor", sum := "fc1e736c79dc2ebe334f9fa6e3f53ea084b93a1a659e53ff169c8eaef55c5ef9", func := "sextant/sextantlaw10.RcKnown", spec := "rcKnown", unfollowed := true, recurses := true, named := ["math/bits.deBruijn64tab"], apart := false, laid := [("math/bits.deBruijn64tab", laid_math_bits_deBruijn64tab)], narrowed := true }
def RcKnownUptoSaid : Prop := rcKnownUptoRow.holds Tryd.pinned (OpenSpec.upto rcKnownSpec)

/-- 'sextantlaw10.RcWeaker', WHERE WHAT IT READS IS OF BULK AT MOST 1048576: true; the input reads as it did. -/
def rcWeakerUptoRow : OpenClaim := { program := "ytpocfojbfodlmaadoor", sum := "fc1e736c79dc2ebe334f9fa6e3f53ea084b93a1a659e53ff169c8eaef55c5ef9", func := "sextant/sextantlaw10.RcWeaker", spec := "rcWeaker", unfollowed := true, recurses := true, named := ["math/bits.deBruijn64tab"], apart := false, laid := [("math/bits.deBruijn64tab", laid_math_bits_deBruijn64tab)], narrowed := true }
def RcWeakerUptoSaid : Prop := rcWeakerUptoRow.holds Tryd.pinned (OpenSpec.upto rcWeakerSpec)

/-- 'sextantlaw10.RcListed', WHERE WHAT IT READS IS OF BULK AT MOST 1048576: true; the input reads as it did. -/
def rcListedUptoRow : OpenClaim := { program := "ytpocfojbfodlmaadoor", sum := "fc1e736c79dc2ebe334f9fa6e3f53ea084b93a1a659e53ff169c8eaef55c5ef9", func := "sextant/sextantlaw10.RcListed", spec := "rcListed", unfollowed := true, recurses := true, named := ["math/bits.deBruijn64tab"], apart := false, laid := [("math/bits.deBruijn64tab", laid_math_bits_deBruijn64tab)], narrowed := true }
def RcListedUptoSaid : Prop := rcListedUptoRow.holds Tryd.pinned (OpenSpec.upto rcListedSpec)

/-- 'sextantlaw10.RcLaws', WHERE WHAT IT READS IS OF BULK AT MOST 1048576: true; the input reads as it did. -/
def rcLawsUptoRow : OpenClaim := { program := "ytpocfojbfodlmaadoor", sum := "fc1e736c79dc2ebe334f9fa6e3f53ea084b93a1a659e53ff169c8eaef55c5ef9", func := "sextant/sextantlaw10.RcLaws", spec := "rcLaws", unfollowed := true, recurses := true, named := ["math/bits.deBruijn64tab"], apart := false, laid := [("math/bits.deBruijn64tab", laid_math_bits_deBruijn64tab)], narrowed := true }
def RcLawsUptoSaid : Prop := rcLawsUptoRow.holds Tryd.pinned (OpenSpec.upto rcLawsSpec)

end Rows
end Go.Proofs.YtpocfojbfodlmaaDoor
