/-
  NARROWER THAN 'FOR EVERY INPUT', by the rows' own cells (each row's printed sentence says how): NumberPows: laid · NumberFormats: laid · NumberSigns: laid · NumberRoots: laid · NumberOrder: laid · NumberGridRoots: laid · NumberSteps: laid · NumberDenotes: laid · NumberSimplest: laid · NumberBetween: laid · NumberTexts: laid.
  DERIVED. THE GIVEN ROWS OF THIS SEAT. 11 by the template 'for every input the law returns true; each argument reads behind the call as it read before'; 0 by the template 'total and deterministic' (their statements: YtfmhplcpejmkhabDoorTotals.lean).
  GIVEN WITH THE SEED: the statements are not yours to turn. If you find one false, say at which input.
  Laid BY PROGRAM, IN A SANDBOX (cutbox-rows.mjs): the forced cells as the released guide's own fill.sh prints them over the translation 5c818d19e4f2b324… (all of the seat's roots in one cut). By AI agents, Wed Nov 11 2026. No macro, syntax, notation, axiom, sorry.
-/
import Derived.Test.YtfmhplcpejmkhabDoorChecked
import GoSem.Claim
import GoSem.ClaimJoined
import GoSem.ClaimMapViews
import Derived.JoinedTies
import Derived.KernelRfl
namespace Go.Proofs.YtfmhplcpejmkhabDoor
/- THE CELL 'sum', in the pinned program and in every row, IS THE sha256 OF THE DUMP (.gsa) THAT YtfmhplcpejmkhabDoorProg.lean LOADS. Nothing in Lean hashes anything: it is a label: what it is worth is what the hold of that sum in a sandbox is worth. -/
noncomputable def Tryd.pinned : Pinned := { name := "ytfmhplcpejmkhabdoor", sum := "5c818d19e4f2b324dbe3a84164a3a031e2fae2ad186ccdc227fae5546c28ef9a", checked := Tryd.checked }
namespace Rows
def none {H : Type} : Left H := { results := [], args := [] }

/- WHAT THE LISTED PACKAGE-LEVEL VARIABLES READ AS WHEN THE CALL BEGINS. Each datum BY PROGRAM (the guide's laid-datum.mjs) off the statement by which the dump's own 'gosem.cut.vars' lays the variable. In a bare row this is a premise. The card (YtfmhplcpejmkhabDoorCards.lean) ties it to the program's text. -/
def laid_math_bits_deBruijn32tab {H : Type} : DataW H := .agg [.lit (.int .u8 0), .lit (.int .u8 1), .lit (.int .u8 28), .lit (.int .u8 2), .lit (.int .u8 29), .lit (.int .u8 14), .lit (.int .u8 24), .lit (.int .u8 3), .lit (.int .u8 30), .lit (.int .u8 22), .lit (.int .u8 20), .lit (.int .u8 15), .lit (.int .u8 25), .lit (.int .u8 17), .lit (.int .u8 4), .lit (.int .u8 8), .lit (.int .u8 31), .lit (.int .u8 27), .lit (.int .u8 13), .lit (.int .u8 23), .lit (.int .u8 21), .lit (.int .u8 19), .lit (.int .u8 16), .lit (.int .u8 7), .lit (.int .u8 26), .lit (.int .u8 12), .lit (.int .u8 18), .lit (.int .u8 6), .lit (.int .u8 11), .lit (.int .u8 5), .lit (.int .u8 10), .lit (.int .u8 9)]

/-- 'inequalitylaw01.NumberPows': WHATEVER THE INPUT: true; the input reads as it did. -/
def numberPowsSpec : ChangeSpec := { name := "numberPows", fn := fun _ => fun
  | [d1, d2] => { results := [.lit (.bool true)], args := [d1, d2] }
  | _ => none }
def numberPowsRow : OpenClaim := { program := "ytfmhplcpejmkhabdoor", sum := "5c818d19e4f2b324dbe3a84164a3a031e2fae2ad186ccdc227fae5546c28ef9a", func := "inequality/inequalitylaw01.NumberPows", spec := "numberPows", unfollowed := true, recurses := true, named := ["math/bits.deBruijn32tab"], apart := false, laid := [("math/bits.deBruijn32tab", laid_math_bits_deBruijn32tab)] }
def NumberPowsSaid : Prop := numberPowsRow.holds Tryd.pinned (OpenSpec.ofChange numberPowsSpec)

/-- ITS FALSE NEIGHBOUR: 'it returns false'. Refute it at one input. -/
def numberPowsWrong : ChangeSpec := { name := "numberPows", fn := fun _ => fun
  | [d1, d2] => { results := [.lit (.bool false)], args := [d1, d2] }
  | _ => none }
def NumberPowsWrongFalsely : Prop := numberPowsRow.holds Tryd.pinned (OpenSpec.ofChange numberPowsWrong)

/-- 'inequalitylaw01.NumberFormats': WHATEVER THE INPUT: true; the input reads as it did. -/
def numberFormatsSpec : ChangeSpec := { name := "numberFormats", fn := fun _ => fun
  | [d] => { results := [.lit (.bool true)], args := [d] }
  | _ => none }
def numberFormatsRow : OpenClaim := { program := "ytfmhplcpejmkhabdoor", sum := "5c818d19e4f2b324dbe3a84164a3a031e2fae2ad186ccdc227fae5546c28ef9a", func := "inequality/inequalitylaw01.NumberFormats", spec := "numberFormats", unfollowed := true, recurses := true, named := ["math/bits.deBruijn32tab"], apart := false, laid := [("math/bits.deBruijn32tab", laid_math_bits_deBruijn32tab)] }
def NumberFormatsSaid : Prop := numberFormatsRow.holds Tryd.pinned (OpenSpec.ofChange numberFormatsSpec)

/-- ITS FALSE NEIGHBOUR: 'it returns false'. Refute it at one input. -/
def numberFormatsWrong : ChangeSpec := { name := "numberFormats", fn := fun _ => fun
  | [d] => { results := [.lit (.bool false)], args := [d] }
  | _ => none }
def NumberFormatsWrongFalsely : Prop := numberFormatsRow.holds Tryd.pinned (OpenSpec.ofChange numberFormatsWrong)

/-- 'inequalitylaw01.NumberSigns': WHATEVER THE INPUT: true; the input reads as it did. -/
def numberSignsSpec : ChangeSpec := { name := "numberSigns", fn := fun _ => fun
  | [d] => { results := [.lit (.bool true)], args := [d] }
  | _ => none }
def numberSignsRow : OpenClaim := { program := "ytfmhplcpejmkhabdoor", sum := "5c818d19e4f2b324dbe3a84164a3a031e2fae2ad186ccdc227fae5546c28ef9a", func := "inequality/inequalitylaw01.NumberSigns", spec := "numberSigns", unfollowed := true, recurses := true, named := ["math/bits.deBruijn32tab"], apart := false, laid := [("math/bits.deBruijn32tab", laid_math_bits_deBruijn32tab)] }
def NumberSignsSaid : Prop := numberSignsRow.holds Tryd.pinned (OpenSpec.ofChange numberSignsSpec)

/-- ITS FALSE NEIGHBOUR: 'it returns false'. Refute it at one input. -/
def numberSignsWrong : ChangeSpec := { name := "numberSigns", fn := fun _ => fun
  | [d] => { results := [.lit (.bool false)], args := [d] }
  | _ => none }
def NumberSignsWrongFalsely : Prop := numberSignsRow.holds Tryd.pinned (OpenSpec.ofChange numberSignsWrong)

/-- 'inequalitylaw01.NumberRoots': WHATEVER THE INPUT: true; the input reads as it did. -/
def numberRootsSpec : ChangeSpec := { name := "numberRoots", fn := fun _ => fun
  | [d1, d2] => { results := [.lit (.bool true)], args := [d1, d2] }
  | _ => none }
def numberRootsRow : OpenClaim := { program := "ytfmhplcpejmkhabdoor", sum := "5c818d19e4f2b324dbe3a84164a3a031e2fae2ad186ccdc227fae5546c28ef9a", func := "inequality/inequalitylaw01.NumberRoots", spec := "numberRoots", unfollowed := true, recurses := true, named := ["math/bits.deBruijn32tab"], apart := false, laid := [("math/bits.deBruijn32tab", laid_math_bits_deBruijn32tab)] }
def NumberRootsSaid : Prop := numberRootsRow.holds Tryd.pinned (OpenSpec.ofChange numberRootsSpec)

/-- ITS FALSE NEIGHBOUR: 'it returns false'. Refute it at one input. -/
def numberRootsWrong : ChangeSpec := { name := "numberRoots", fn := fun _ => fun
  | [d1, d2] => { results := [.lit (.bool false)], args := [d1, d2] }
  | _ => none }
def NumberRootsWrongFalsely : Prop := numberRootsRow.holds Tryd.pinned (OpenSpec.ofChange numberRootsWrong)

/-- 'inequalitylaw01.NumberOrder': WHATEVER THE INPUT: true; the input reads as it did. -/
def numberOrderSpec : ChangeSpec := { name := "numberOrder", fn := fun _ => fun
  | [d1, d2, d3] => { results := [.lit (.bool true)], args := [d1, d2, d3] }
  | _ => none }
def numberOrderRow : OpenClaim := { program := "ytfmhplcpejmkhabdoor", sum := "5c818d19e4f2b324dbe3a84164a3a031e2fae2ad186ccdc227fae5546c28ef9a", func := "inequality/inequalitylaw01.NumberOrder", spec := "numberOrder", unfollowed := true, recurses := true, named := ["math/bits.deBruijn32tab"], apart := false, laid := [("math/bits.deBruijn32tab", laid_math_bits_deBruijn32tab)] }
def NumberOrderSaid : Prop := numberOrderRow.holds Tryd.pinned (OpenSpec.ofChange numberOrderSpec)

/-- ITS FALSE NEIGHBOUR: 'it returns false'. Refute it at one input. -/
def numberOrderWrong : ChangeSpec := { name := "numberOrder", fn := fun _ => fun
  | [d1, d2, d3] => { results := [.lit (.bool false)], args := [d1, d2, d3] }
  | _ => none }
def NumberOrderWrongFalsely : Prop := numberOrderRow.holds Tryd.pinned (OpenSpec.ofChange numberOrderWrong)

/-- 'inequalitylaw01.NumberGridRoots': WHATEVER THE INPUT: true; the input reads as it did. -/
def numberGridRootsSpec : ChangeSpec := { name := "numberGridRoots", fn := fun _ => fun
  | [d1, d2, d3] => { results := [.lit (.bool true)], args := [d1, d2, d3] }
  | _ => none }
def numberGridRootsRow : OpenClaim := { program := "ytfmhplcpejmkhabdoor", sum := "5c818d19e4f2b324dbe3a84164a3a031e2fae2ad186ccdc227fae5546c28ef9a", func := "inequality/inequalitylaw01.NumberGridRoots", spec := "numberGridRoots", unfollowed := true, recurses := true, named := ["math/bits.deBruijn32tab"], apart := false, laid := [("math/bits.deBruijn32tab", laid_math_bits_deBruijn32tab)] }
def NumberGridRootsSaid : Prop := numberGridRootsRow.holds Tryd.pinned (OpenSpec.ofChange numberGridRootsSpec)

/-- ITS FALSE NEIGHBOUR: 'it returns false'. Refute it at one input. -/
def numberGridRootsWrong : ChangeSpec := { name := "numberGridRoots", fn := fun _ => fun
  | [d1, d2, d3] => { results := [.lit (.bool false)], args := [d1, d2, d3] }
  | _ => none }
def NumberGridRootsWrongFalsely : Prop := numberGridRootsRow.holds Tryd.pinned (OpenSpec.ofChange numberGridRootsWrong)

/-- 'inequalitylaw01.NumberSteps': WHATEVER THE INPUT: true; the input reads as it did. -/
def numberStepsSpec : ChangeSpec := { name := "numberSteps", fn := fun _ => fun
  | [d1, d2] => { results := [.lit (.bool true)], args := [d1, d2] }
  | _ => none }
def numberStepsRow : OpenClaim := { program := "ytfmhplcpejmkhabdoor", sum := "5c818d19e4f2b324dbe3a84164a3a031e2fae2ad186ccdc227fae5546c28ef9a", func := "inequality/inequalitylaw01.NumberSteps", spec := "numberSteps", unfollowed := true, recurses := true, named := ["math/bits.deBruijn32tab"], apart := false, laid := [("math/bits.deBruijn32tab", laid_math_bits_deBruijn32tab)] }
def NumberStepsSaid : Prop := numberStepsRow.holds Tryd.pinned (OpenSpec.ofChange numberStepsSpec)

/-- ITS FALSE NEIGHBOUR: 'it returns false'. Refute it at one input. -/
def numberStepsWrong : ChangeSpec := { name := "numberSteps", fn := fun _ => fun
  | [d1, d2] => { results := [.lit (.bool false)], args := [d1, d2] }
  | _ => none }
def NumberStepsWrongFalsely : Prop := numberStepsRow.holds Tryd.pinned (OpenSpec.ofChange numberStepsWrong)

/-- 'inequalitylaw01.NumberDenotes': WHATEVER THE INPUT: true; the input reads as it did. -/
def numberDenotesSpec : ChangeSpec := { name := "numberDenotes", fn := fun _ => fun
  | [d1, d2, d3] => { results := [.lit (.bool true)], args := [d1, d2, d3] }
  | _ => none }
def numberDenotesRow : OpenClaim := { program := "ytfmhplcpejmkhabdoor", sum := "5c818d19e4f2b324dbe3a84164a3a031e2fae2ad186ccdc227fae5546c28ef9a", func := "inequality/inequalitylaw01.NumberDenotes", spec := "numberDenotes", unfollowed := true, recurses := true, named := ["math/bits.deBruijn32tab"], apart := false, laid := [("math/bits.deBruijn32tab", laid_math_bits_deBruijn32tab)] }
def NumberDenotesSaid : Prop := numberDenotesRow.holds Tryd.pinned (OpenSpec.ofChange numberDenotesSpec)

/-- ITS FALSE NEIGHBOUR: 'it returns false'. Refute it at one input. -/
def numberDenotesWrong : ChangeSpec := { name := "numberDenotes", fn := fun _ => fun
  | [d1, d2, d3] => { results := [.lit (.bool false)], args := [d1, d2, d3] }
  | _ => none }
def NumberDenotesWrongFalsely : Prop := numberDenotesRow.holds Tryd.pinned (OpenSpec.ofChange numberDenotesWrong)

/-- 'inequalitylaw01.NumberSimplest': WHATEVER THE INPUT: true; the input reads as it did. -/
def numberSimplestSpec : ChangeSpec := { name := "numberSimplest", fn := fun _ => fun
  | [d1, d2] => { results := [.lit (.bool true)], args := [d1, d2] }
  | _ => none }
def numberSimplestRow : OpenClaim := { program := "ytfmhplcpejmkhabdoor", sum := "5c818d19e4f2b324dbe3a84164a3a031e2fae2ad186ccdc227fae5546c28ef9a", func := "inequality/inequalitylaw01.NumberSimplest", spec := "numberSimplest", unfollowed := true, recurses := true, named := ["math/bits.deBruijn32tab"], apart := false, laid := [("math/bits.deBruijn32tab", laid_math_bits_deBruijn32tab)] }
def NumberSimplestSaid : Prop := numberSimplestRow.holds Tryd.pinned (OpenSpec.ofChange numberSimplestSpec)

/-- ITS FALSE NEIGHBOUR: 'it returns false'. Refute it at one input. -/
def numberSimplestWrong : ChangeSpec := { name := "numberSimplest", fn := fun _ => fun
  | [d1, d2] => { results := [.lit (.bool false)], args := [d1, d2] }
  | _ => none }
def NumberSimplestWrongFalsely : Prop := numberSimplestRow.holds Tryd.pinned (OpenSpec.ofChange numberSimplestWrong)

/-- 'inequalitylaw01.NumberBetween': WHATEVER THE INPUT: true; the input reads as it did. -/
def numberBetweenSpec : ChangeSpec := { name := "numberBetween", fn := fun _ => fun
  | [d1, d2, d3] => { results := [.lit (.bool true)], args := [d1, d2, d3] }
  | _ => none }
def numberBetweenRow : OpenClaim := { program := "ytfmhplcpejmkhabdoor", sum := "5c818d19e4f2b324dbe3a84164a3a031e2fae2ad186ccdc227fae5546c28ef9a", func := "inequality/inequalitylaw01.NumberBetween", spec := "numberBetween", unfollowed := true, recurses := true, named := ["math/bits.deBruijn32tab"], apart := false, laid := [("math/bits.deBruijn32tab", laid_math_bits_deBruijn32tab)] }
def NumberBetweenSaid : Prop := numberBetweenRow.holds Tryd.pinned (OpenSpec.ofChange numberBetweenSpec)

/-- ITS FALSE NEIGHBOUR: 'it returns false'. Refute it at one input. -/
def numberBetweenWrong : ChangeSpec := { name := "numberBetween", fn := fun _ => fun
  | [d1, d2, d3] => { results := [.lit (.bool false)], args := [d1, d2, d3] }
  | _ => none }
def NumberBetweenWrongFalsely : Prop := numberBetweenRow.holds Tryd.pinned (OpenSpec.ofChange numberBetweenWrong)

/-- 'inequalitylaw01.NumberTexts': WHATEVER THE INPUT: true; the input reads as it did. -/
def numberTextsSpec : ChangeSpec := { name := "numberTexts", fn := fun _ => fun
  | [d1, d2] => { results := [.lit (.bool true)], args := [d1, d2] }
  | _ => none }
def numberTextsRow : OpenClaim := { program := "ytfmhplcpejmkhabdoor", sum := "5c818d19e4f2b324dbe3a84164a3a031e2fae2ad186ccdc227fae5546c28ef9a", func := "inequality/inequalitylaw01.NumberTexts", spec := "numberTexts", unfollowed := true, recurses := true, named := ["math/bits.deBruijn32tab"], apart := false, laid := [("math/bits.deBruijn32tab", laid_math_bits_deBruijn32tab)] }
def NumberTextsSaid : Prop := numberTextsRow.holds Tryd.pinned (OpenSpec.ofChange numberTextsSpec)

/-- ITS FALSE NEIGHBOUR: 'it returns false'. Refute it at one input. -/
def numberTextsWrong : ChangeSpec := { name := "numberTexts", fn := fun _ => fun
  | [d1, d2] => { results := [.lit (.bool false)], args := [d1, d2] }
  | _ => none }
def NumberTextsWrongFalsely : Prop := numberTextsRow.holds Tryd.pinned (OpenSpec.ofChange numberTextsWrong)

/- THE SECOND FORM. 'bulk': how many values and letters a reading holds, each counted each time it is reached (what is shared counts as often as it is met; a slice's spare places count too). A statement '..UptoSaid' is the law's where the arguments, and the package variables that the reading takes, are together of bulk at most 1048576: NARROWER than '..Said'. Prove '..Said' where nothing that the law and all that it calls make is longer than what came in: it says more and counts as full. Else prove '..UptoSaid'. A law counts once. -/
mutual
def uptoBulk {H : Type} : DataW H → Nat
  | .lit (.string bytes) => bytes.length + 1
  | .lit _ => 1
  | .nil => 1
  | .ptr d => uptoBulk d + 1
  | .slice elems spare => uptoBulkAll elems + uptoBulkAll spare + 1
  | .agg parts => uptoBulkAll parts + 1
  | .iface _ d => uptoBulk d + 1
  | .map entries => uptoBulkEntries entries + 1
  | .held _ => 1
def uptoBulkAll {H : Type} : List (DataW H) → Nat
  | [] => 0
  | d :: r => uptoBulk d + uptoBulkAll r
def uptoBulkEntries {H : Type} : List (Lit × DataW H) → Nat
  | [] => 0
  | x :: r => uptoBulkEntry x + uptoBulkEntries r
def uptoBulkEntry {H : Type} : Lit × DataW H → Nat
  | (.string bytes, d) => bytes.length + uptoBulk d + 1
  | (_, d) => uptoBulk d + 1
 end
def uptoSmall : (H : Type) → List (DataW H) → Bool := fun _ ds => decide (uptoBulkAll ds ≤ 1048576)
def OpenSpec.upto (s : _root_.Go.ChangeSpec) : _root_.Go.OpenSpec := { _root_.Go.OpenSpec.ofChange s with cond := some uptoSmall }

/-- 'inequalitylaw01.NumberPows', WHERE WHAT IT READS IS OF BULK AT MOST 1048576: true; the input reads as it did. -/
def numberPowsUptoRow : OpenClaim := { program := "ytfmhplcpejmkhabdoor", sum := "5c818d19e4f2b324dbe3a84164a3a031e2fae2ad186ccdc227fae5546c28ef9a", func := "inequality/inequalitylaw01.NumberPows", spec := "numberPows", unfollowed := true, recurses := true, named := ["math/bits.deBruijn32tab"], apart := false, laid := [("math/bits.deBruijn32tab", laid_math_bits_deBruijn32tab)], narrowed := true }
def NumberPowsUptoSaid : Prop := numberPowsUptoRow.holds Tryd.pinned (OpenSpec.upto numberPowsSpec)

/-- 'inequalitylaw01.NumberFormats', WHERE WHAT IT READS IS OF BULK AT MOST 1048576: true; the input reads as it did. -/
def numberFormatsUptoRow : OpenClaim := { program := "ytfmhplcpejmkhabdoor", sum := "5c818d19e4f2b324dbe3a84164a3a031e2fae2ad186ccdc227fae5546c28ef9a", func := "inequality/inequalitylaw01.NumberFormats", spec := "numberFormats", unfollowed := true, recurses := true, named := ["math/bits.deBruijn32tab"], apart := false, laid := [("math/bits.deBruijn32tab", laid_math_bits_deBruijn32tab)], narrowed := true }
def NumberFormatsUptoSaid : Prop := numberFormatsUptoRow.holds Tryd.pinned (OpenSpec.upto numberFormatsSpec)

/-- 'inequalitylaw01.NumberSigns', WHERE WHAT IT READS IS OF BULK AT MOST 1048576: true; the input reads as it did. -/
def numberSignsUptoRow : OpenClaim := { program := "ytfmhplcpejmkhabdoor", sum := "5c818d19e4f2b324dbe3a84164a3a031e2fae2ad186ccdc227fae5546c28ef9a", func := "inequality/inequalitylaw01.NumberSigns", spec := "numberSigns", unfollowed := true, recurses := true, named := ["math/bits.deBruijn32tab"], apart := false, laid := [("math/bits.deBruijn32tab", laid_math_bits_deBruijn32tab)], narrowed := true }
def NumberSignsUptoSaid : Prop := numberSignsUptoRow.holds Tryd.pinned (OpenSpec.upto numberSignsSpec)

/-- 'inequalitylaw01.NumberRoots', WHERE WHAT IT READS IS OF BULK AT MOST 1048576: true; the input reads as it did. -/
def numberRootsUptoRow : OpenClaim := { program := "ytfmhplcpejmkhabdoor", sum := "5c818d19e4f2b324dbe3a84164a3a031e2fae2ad186ccdc227fae5546c28ef9a", func := "inequality/inequalitylaw01.NumberRoots", spec := "numberRoots", unfollowed := true, recurses := true, named := ["math/bits.deBruijn32tab"], apart := false, laid := [("math/bits.deBruijn32tab", laid_math_bits_deBruijn32tab)], narrowed := true }
def NumberRootsUptoSaid : Prop := numberRootsUptoRow.holds Tryd.pinned (OpenSpec.upto numberRootsSpec)

/-- 'inequalitylaw01.NumberOrder', WHERE WHAT IT READS IS OF BULK AT MOST 1048576: true; the input reads as it did. -/
def numberOrderUptoRow : OpenClaim := { program := "ytfmhplcpejmkhabdoor", sum := "5c818d19e4f2b324dbe3a84164a3a031e2fae2ad186ccdc227fae5546c28ef9a", func := "inequality/inequalitylaw01.NumberOrder", spec := "numberOrder", unfollowed := true, recurses := true, named := ["math/bits.deBruijn32tab"], apart := false, laid := [("math/bits.deBruijn32tab", laid_math_bits_deBruijn32tab)], narrowed := true }
def NumberOrderUptoSaid : Prop := numberOrderUptoRow.holds Tryd.pinned (OpenSpec.upto numberOrderSpec)

/-- 'inequalitylaw01.NumberGridRoots', WHERE WHAT IT READS IS OF BULK AT MOST 1048576: true; the input reads as it did. -/
def numberGridRootsUptoRow : OpenClaim := { program := "ytfmhplcpejmkhabdoor", sum := "5c818d19e4f2b324dbe3a84164a3a031e2fae2ad186ccdc227fae5546c28ef9a", func := "inequality/inequalitylaw01.NumberGridRoots", spec := "numberGridRoots", unfollowed := true, recurses := true, named := ["math/bits.deBruijn32tab"], apart := false, laid := [("math/bits.deBruijn32tab", laid_math_bits_deBruijn32tab)], narrowed := true }
def NumberGridRootsUptoSaid : Prop := numberGridRootsUptoRow.holds Tryd.pinned (OpenSpec.upto numberGridRootsSpec)

/-- 'inequalitylaw01.NumberSteps', WHERE WHAT IT READS IS OF BULK AT MOST 1048576: true; the input reads as it did. -/
def numberStepsUptoRow : OpenClaim := { program := "ytfmhplcpejmkhabdoor", sum := "5c818d19e4f2b324dbe3a84164a3a031e2fae2ad186ccdc227fae5546c28ef9a", func := "inequality/inequalitylaw01.NumberSteps", spec := "numberSteps", unfollowed := true, recurses := true, named := ["math/bits.deBruijn32tab"], apart := false, laid := [("math/bits.deBruijn32tab", laid_math_bits_deBruijn32tab)], narrowed := true }
def NumberStepsUptoSaid : Prop := numberStepsUptoRow.holds Tryd.pinned (OpenSpec.upto numberStepsSpec)

/-- 'inequalitylaw01.NumberDenotes', WHERE WHAT IT READS IS OF BULK AT MOST 1048576: true; the input reads as it did. -/
def numberDenotesUptoRow : OpenClaim := { program := "ytfmhplcpejmkhabdoor", sum := "5c818d19e4f2b324dbe3a84164a3a031e2fae2ad186ccdc227fae5546c28ef9a", func := "inequality/inequalitylaw01.NumberDenotes", spec := "numberDenotes", unfollowed := true, recurses := true, named := ["math/bits.deBruijn32tab"], apart := false, laid := [("math/bits.deBruijn32tab", laid_math_bits_deBruijn32tab)], narrowed := true }
def NumberDenotesUptoSaid : Prop := numberDenotesUptoRow.holds Tryd.pinned (OpenSpec.upto numberDenotesSpec)

/-- 'inequalitylaw01.NumberSimplest', WHERE WHAT IT READS IS OF BULK AT MOST 1048576: true; the input reads as it did. -/
def numberSimplestUptoRow : OpenClaim := { program := "ytfmhplcpejmkhabdoor", sum := "5c818d19e4f2b324dbe3a84164a3a031e2fae2ad186ccdc227fae5546c28ef9a", func := "inequality/inequalitylaw01.NumberSimplest", spec := "numberSimplest", unfollowed := true, recurses := true, named := ["math/bits.deBruijn32tab"], apart := false, laid := [("math/bits.deBruijn32tab", laid_math_bits_deBruijn32tab)], narrowed := true }
def NumberSimplestUptoSaid : Prop := numberSimplestUptoRow.holds Tryd.pinned (OpenSpec.upto numberSimplestSpec)

/-- 'inequalitylaw01.NumberBetween', WHERE WHAT IT READS IS OF BULK AT MOST 1048576: true; the input reads as it did. -/
def numberBetweenUptoRow : OpenClaim := { program := "ytfmhplcpejmkhabdoor", sum := "5c818d19e4f2b324dbe3a84164a3a031e2fae2ad186ccdc227fae5546c28ef9a", func := "inequality/inequalitylaw01.NumberBetween", spec := "numberBetween", unfollowed := true, recurses := true, named := ["math/bits.deBruijn32tab"], apart := false, laid := [("math/bits.deBruijn32tab", laid_math_bits_deBruijn32tab)], narrowed := true }
def NumberBetweenUptoSaid : Prop := numberBetweenUptoRow.holds Tryd.pinned (OpenSpec.upto numberBetweenSpec)

/-- 'inequalitylaw01.NumberTexts', WHERE WHAT IT READS IS OF BULK AT MOST 1048576: true; the input reads as it did. -/
def numberTextsUptoRow : OpenClaim := { program := "ytfmhplcpejmkhabdoor", sum := "5c818d19e4f2b324dbe3a84164a3a031e2fae2ad186ccdc227fae5546c28ef9a", func := "inequality/inequalitylaw01.NumberTexts", spec := "numberTexts", unfollowed := true, recurses := true, named := ["math/bits.deBruijn32tab"], apart := false, laid := [("math/bits.deBruijn32tab", laid_math_bits_deBruijn32tab)], narrowed := true }
def NumberTextsUptoSaid : Prop := numberTextsUptoRow.holds Tryd.pinned (OpenSpec.upto numberTextsSpec)

end Rows
end Go.Proofs.YtfmhplcpejmkhabDoor
