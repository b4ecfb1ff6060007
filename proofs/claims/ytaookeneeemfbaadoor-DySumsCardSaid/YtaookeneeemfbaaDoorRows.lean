/-
  NARROWER THAN 'FOR EVERY INPUT', by the rows' own cells (each row's printed sentence says how): DyMakes: laid · DyMoves: laid · DyFloors: laid · DySums: laid · DyRing: laid · DyParts: laid.
  DERIVED. THE GIVEN ROWS OF THIS SEAT. 6 by the template 'for every input the law returns true; each argument reads behind the call as it read before'; 0 by the template 'total and deterministic' (their statements: YtaookeneeemfbaaDoorTotals.lean).
  GIVEN WITH THE SEED: the statements are not yours to turn. If you find one false, say at which input.
  Laid BY PROGRAM, IN A SANDBOX (cutbox-rows.mjs): the forced cells as the released guide's own fill.sh prints them over the translation fb9c3e3838f9e35f… (all of the seat's roots in one cut). By AI agents, Wed Nov 11 2026. No macro, syntax, notation, axiom, sorry.
-/
import Derived.Test.YtaookeneeemfbaaDoorChecked
import GoSem.Claim
import GoSem.ClaimJoined
import GoSem.ClaimMapViews
import Derived.JoinedTies
import Derived.KernelRfl
namespace Go.Proofs.YtaookeneeemfbaaDoor
/- THE CELL 'sum', in the pinned program and in every row, IS THE sha256 OF THE DUMP (.gsa) THAT YtaookeneeemfbaaDoorProg.lean LOADS. Nothing in Lean hashes anything: it is a label: what it is worth is what the hold of that sum in a sandbox is worth. -/
noncomputable def Tryd.pinned : Pinned := { name := "ytaookeneeemfbaadoor", sum := "fb9c3e3838f9e35f198ca6aaa52513acfb342e3450188687f76eec9cb8f73fda", checked := Tryd.checked }
namespace Rows
def none {H : Type} : Left H := { results := [], args := [] }

/- WHAT THE LISTED PACKAGE-LEVEL VARIABLES READ AS WHEN THE CALL BEGINS. Each datum BY PROGRAM (the guide's laid-datum.mjs) off the statement by which the dump's own 'gosem.cut.vars' lays the variable. In a bare row this is a premise. The card (YtaookeneeemfbaaDoorCards.lean) ties it to the program's text. -/
def laid_math_bits_deBruijn32tab {H : Type} : DataW H := .agg [.lit (.int .u8 0), .lit (.int .u8 1), .lit (.int .u8 28), .lit (.int .u8 2), .lit (.int .u8 29), .lit (.int .u8 14), .lit (.int .u8 24), .lit (.int .u8 3), .lit (.int .u8 30), .lit (.int .u8 22), .lit (.int .u8 20), .lit (.int .u8 15), .lit (.int .u8 25), .lit (.int .u8 17), .lit (.int .u8 4), .lit (.int .u8 8), .lit (.int .u8 31), .lit (.int .u8 27), .lit (.int .u8 13), .lit (.int .u8 23), .lit (.int .u8 21), .lit (.int .u8 19), .lit (.int .u8 16), .lit (.int .u8 7), .lit (.int .u8 26), .lit (.int .u8 12), .lit (.int .u8 18), .lit (.int .u8 6), .lit (.int .u8 11), .lit (.int .u8 5), .lit (.int .u8 10), .lit (.int .u8 9)]

/-- 'peloruslaw03.DyMakes': WHATEVER THE INPUT: true; the input reads as it did. -/
def dyMakesSpec : ChangeSpec := { name := "dyMakes", fn := fun _ => fun
  | [d1, d2, d3] => { results := [.lit (.bool true)], args := [d1, d2, d3] }
  | _ => none }
def dyMakesRow : OpenClaim := { program := "ytaookeneeemfbaadoor", sum := "fb9c3e3838f9e35f198ca6aaa52513acfb342e3450188687f76eec9cb8f73fda", func := "pelorus/peloruslaw03.DyMakes", spec := "dyMakes", named := ["math/bits.deBruijn32tab"], apart := false, laid := [("math/bits.deBruijn32tab", laid_math_bits_deBruijn32tab)] }
def DyMakesSaid : Prop := dyMakesRow.holds Tryd.pinned (OpenSpec.ofChange dyMakesSpec)

/-- ITS FALSE NEIGHBOUR: 'it returns false'. Refute it at one input. -/
def dyMakesWrong : ChangeSpec := { name := "dyMakes", fn := fun _ => fun
  | [d1, d2, d3] => { results := [.lit (.bool false)], args := [d1, d2, d3] }
  | _ => none }
def DyMakesWrongFalsely : Prop := dyMakesRow.holds Tryd.pinned (OpenSpec.ofChange dyMakesWrong)

/-- 'peloruslaw03.DyMoves': WHATEVER THE INPUT: true; the input reads as it did. -/
def dyMovesSpec : ChangeSpec := { name := "dyMoves", fn := fun _ => fun
  | [d1, d2, d3, d4] => { results := [.lit (.bool true)], args := [d1, d2, d3, d4] }
  | _ => none }
def dyMovesRow : OpenClaim := { program := "ytaookeneeemfbaadoor", sum := "fb9c3e3838f9e35f198ca6aaa52513acfb342e3450188687f76eec9cb8f73fda", func := "pelorus/peloruslaw03.DyMoves", spec := "dyMoves", named := ["math/bits.deBruijn32tab"], apart := false, laid := [("math/bits.deBruijn32tab", laid_math_bits_deBruijn32tab)] }
def DyMovesSaid : Prop := dyMovesRow.holds Tryd.pinned (OpenSpec.ofChange dyMovesSpec)

/-- ITS FALSE NEIGHBOUR: 'it returns false'. Refute it at one input. -/
def dyMovesWrong : ChangeSpec := { name := "dyMoves", fn := fun _ => fun
  | [d1, d2, d3, d4] => { results := [.lit (.bool false)], args := [d1, d2, d3, d4] }
  | _ => none }
def DyMovesWrongFalsely : Prop := dyMovesRow.holds Tryd.pinned (OpenSpec.ofChange dyMovesWrong)

/-- 'peloruslaw03.DyFloors': WHATEVER THE INPUT: true; the input reads as it did. -/
def dyFloorsSpec : ChangeSpec := { name := "dyFloors", fn := fun _ => fun
  | [d1, d2] => { results := [.lit (.bool true)], args := [d1, d2] }
  | _ => none }
def dyFloorsRow : OpenClaim := { program := "ytaookeneeemfbaadoor", sum := "fb9c3e3838f9e35f198ca6aaa52513acfb342e3450188687f76eec9cb8f73fda", func := "pelorus/peloruslaw03.DyFloors", spec := "dyFloors", named := ["math/bits.deBruijn32tab"], apart := false, laid := [("math/bits.deBruijn32tab", laid_math_bits_deBruijn32tab)] }
def DyFloorsSaid : Prop := dyFloorsRow.holds Tryd.pinned (OpenSpec.ofChange dyFloorsSpec)

/-- ITS FALSE NEIGHBOUR: 'it returns false'. Refute it at one input. -/
def dyFloorsWrong : ChangeSpec := { name := "dyFloors", fn := fun _ => fun
  | [d1, d2] => { results := [.lit (.bool false)], args := [d1, d2] }
  | _ => none }
def DyFloorsWrongFalsely : Prop := dyFloorsRow.holds Tryd.pinned (OpenSpec.ofChange dyFloorsWrong)

/-- 'peloruslaw03.DySums': WHATEVER THE INPUT: true; the input reads as it did. -/
def dySumsSpec : ChangeSpec := { name := "dySums", fn := fun _ => fun
  | [d1, d2, d3] => { results := [.lit (.bool true)], args := [d1, d2, d3] }
  | _ => none }
def dySumsRow : OpenClaim := { program := "ytaookeneeemfbaadoor", sum := "fb9c3e3838f9e35f198ca6aaa52513acfb342e3450188687f76eec9cb8f73fda", func := "pelorus/peloruslaw03.DySums", spec := "dySums", named := ["math/bits.deBruijn32tab"], apart := false, laid := [("math/bits.deBruijn32tab", laid_math_bits_deBruijn32tab)] }
def DySumsSaid : Prop := dySumsRow.holds Tryd.pinned (OpenSpec.ofChange dySumsSpec)

/-- ITS FALSE NEIGHBOUR: 'it returns false'. Refute it at one input. -/
def dySumsWrong : ChangeSpec := { name := "dySums", fn := fun _ => fun
  | [d1, d2, d3] => { results := [.lit (.bool false)], args := [d1, d2, d3] }
  | _ => none }
def DySumsWrongFalsely : Prop := dySumsRow.holds Tryd.pinned (OpenSpec.ofChange dySumsWrong)

/-- 'peloruslaw03.DyRing': WHATEVER THE INPUT: true; the input reads as it did. -/
def dyRingSpec : ChangeSpec := { name := "dyRing", fn := fun _ => fun
  | [d1, d2, d3] => { results := [.lit (.bool true)], args := [d1, d2, d3] }
  | _ => none }
def dyRingRow : OpenClaim := { program := "ytaookeneeemfbaadoor", sum := "fb9c3e3838f9e35f198ca6aaa52513acfb342e3450188687f76eec9cb8f73fda", func := "pelorus/peloruslaw03.DyRing", spec := "dyRing", named := ["math/bits.deBruijn32tab"], apart := false, laid := [("math/bits.deBruijn32tab", laid_math_bits_deBruijn32tab)] }
def DyRingSaid : Prop := dyRingRow.holds Tryd.pinned (OpenSpec.ofChange dyRingSpec)

/-- ITS FALSE NEIGHBOUR: 'it returns false'. Refute it at one input. -/
def dyRingWrong : ChangeSpec := { name := "dyRing", fn := fun _ => fun
  | [d1, d2, d3] => { results := [.lit (.bool false)], args := [d1, d2, d3] }
  | _ => none }
def DyRingWrongFalsely : Prop := dyRingRow.holds Tryd.pinned (OpenSpec.ofChange dyRingWrong)

/-- 'peloruslaw03.DyParts': WHATEVER THE INPUT: true; the input reads as it did. -/
def dyPartsSpec : ChangeSpec := { name := "dyParts", fn := fun _ => fun
  | [d] => { results := [.lit (.bool true)], args := [d] }
  | _ => none }
def dyPartsRow : OpenClaim := { program := "ytaookeneeemfbaadoor", sum := "fb9c3e3838f9e35f198ca6aaa52513acfb342e3450188687f76eec9cb8f73fda", func := "pelorus/peloruslaw03.DyParts", spec := "dyParts", named := ["math/bits.deBruijn32tab"], apart := false, laid := [("math/bits.deBruijn32tab", laid_math_bits_deBruijn32tab)] }
def DyPartsSaid : Prop := dyPartsRow.holds Tryd.pinned (OpenSpec.ofChange dyPartsSpec)

/-- ITS FALSE NEIGHBOUR: 'it returns false'. Refute it at one input. -/
def dyPartsWrong : ChangeSpec := { name := "dyParts", fn := fun _ => fun
  | [d] => { results := [.lit (.bool false)], args := [d] }
  | _ => none }
def DyPartsWrongFalsely : Prop := dyPartsRow.holds Tryd.pinned (OpenSpec.ofChange dyPartsWrong)

/- THE SECOND FORM. 'bulk': how many values and letters a reading holds, each counted each time it is reached (what is shared counts as often as it is met; a slice's spare places count too). A statement '..UptoSaid' is the law's where the arguments, and the package variables that the reading takes, are together of bulk at most 1048576: NARROWER than '..Said'. Prove '..Said' where nothing that the law and all that it calls make is longer than what came in: it says more and counts as full. Else prove '..UptoSaid'. A law counts once. -/
mutual
def uptoBulk {H : Type} : DataW H → Nat
  | .lit (.string bytes) => bytes.length + 1
  | .lit _ => 1
  | .nil => 1
  | .ptr d => uptoBulk d + 1
  | .slice elems spare => uptoBulkAll elems + uptoBulkAll spare + 1
  | .agg parts => uptoBulkAll parts + 1
  | .iface _ d => uptoBulk d + 1
  | .map entries => uptoBulkEntries entries + 1
  | .held _ => 1
def uptoBulkAll {H : Type} : List (DataW H) → Nat
  | [] => 0
  | d :: r => uptoBulk d + uptoBulkAll r
def uptoBulkEntries {H : Type} : List (Lit × DataW H) → Nat
  | [] => 0
  | x :: r => uptoBulkEntry x + uptoBulkEntries r
def uptoBulkEntry {H : Type} : Lit × DataW H → Nat
  | (.string bytes, d) => bytes.length + uptoBulk d + 1
  | (_, d) => uptoBulk d + 1
 end
def uptoSmall : (H : Type) → List (DataW H) → Bool := fun _ ds => decide (uptoBulkAll ds ≤ 1048576)
def OpenSpec.upto (s : _root_.Go.ChangeSpec) : _root_.Go.OpenSpec := { _root_.Go.OpenSpec.ofChange s with cond := some uptoSmall }

/-- 'peloruslaw03.DyMakes', WHERE WHAT IT READS IS OF BULK AT MOST 1048576: true; the input reads as it did. -/
def dyMakesUptoRow : OpenClaim := { program := "ytaookeneeemfbaadoor", sum := "fb9c3e3838f9e35f198ca6aaa52513acfb342e3450188687f76eec9cb8f73fda", func := "pelorus/peloruslaw03.DyMakes", spec := "dyMakes", named := ["math/bits.deBruijn32tab"], apart := false, laid := [("math/bits.deBruijn32tab", laid_math_bits_deBruijn32tab)], narrowed := true }
def DyMakesUptoSaid : Prop := dyMakesUptoRow.holds Tryd.pinned (OpenSpec.upto dyMakesSpec)

/-- 'peloruslaw03.DyMoves', WHERE WHAT IT READS IS OF BULK AT MOST 1048576: true; the input reads as it did. -/
def dyMovesUptoRow : OpenClaim := { program := "ytaookeneeemfbaadoor", sum := "fb9c3e3838f9e35f198ca6aaa52513acfb342e3450188687f76eec9cb8f73fda", func := "pelorus/peloruslaw03.DyMoves", spec := "dyMoves", named := ["math/bits.deBruijn32tab"], apart := false, laid := [("math/bits.deBruijn32tab", laid_math_bits_deBruijn32tab)], narrowed := true }
def DyMovesUptoSaid : Prop := dyMovesUptoRow.holds Tryd.pinned (OpenSpec.upto dyMovesSpec)

/-- 'peloruslaw03.DyFloors', WHERE WHAT IT READS IS OF BULK AT MOST 1048576: true; the input reads as it did. -/
def dyFloorsUptoRow : OpenClaim := { program := "ytaookeneeemfbaadoor", sum := "fb9c3e3838f9e35f198ca6aaa52513acfb342e3450188687f76eec9cb8f73fda", func := "pelorus/peloruslaw03.DyFloors", spec := "dyFloors", named := ["math/bits.deBruijn32tab"], apart := false, laid := [("math/bits.deBruijn32tab", laid_math_bits_deBruijn32tab)], narrowed := true }
def DyFloorsUptoSaid : Prop := dyFloorsUptoRow.holds Tryd.pinned (OpenSpec.upto dyFloorsSpec)

/-- 'peloruslaw03.DySums', WHERE WHAT IT READS IS OF BULK AT MOST 1048576: true; the input reads as it did. -/
def dySumsUptoRow : OpenClaim := { program := "ytaookeneeemfbaadoor", sum := "fb9c3e3838f9e35f198ca6aaa52513acfb342e3450188687f76eec9cb8f73fda", func := "pelorus/peloruslaw03.DySums", spec := "dySums", named := ["math/bits.deBruijn32tab"], apart := false, laid := [("math/bits.deBruijn32tab", laid_math_bits_deBruijn32tab)], narrowed := true }
def DySumsUptoSaid : Prop := dySumsUptoRow.holds Tryd.pinned (OpenSpec.upto dySumsSpec)

/-- 'peloruslaw03.DyRing', WHERE WHAT IT READS IS OF BULK AT MOST 1048576: true; the input reads as it did. -/
def dyRingUptoRow : OpenClaim := { program := "ytaookeneeemfbaadoor", sum := "fb9c3e3838f9e35f198ca6aaa52513acfb342e3450188687f76eec9cb8f73fda", func := "pelorus/peloruslaw03.DyRing", spec := "dyRing", named := ["math/bits.deBruijn32tab"], apart := false, laid := [("math/bits.deBruijn32tab", laid_math_bits_deBruijn32tab)], narrowed := true }
def DyRingUptoSaid : Prop := dyRingUptoRow.holds Tryd.pinned (OpenSpec.upto dyRingSpec)

/-- 'peloruslaw03.DyParts', WHERE WHAT IT READS IS OF BULK AT MOST 1048576: true; the input reads as it did. -/
def dyPartsUptoRow : OpenClaim := { program := "ytaookeneeemfbaadoor", sum := "fb9c3e3838f9e35f198ca6aaa52513acfb342e3450188687f76eec9cb8f73fda", func := "pelorus/peloruslaw03.DyParts", spec := "dyParts", named := ["math/bits.deBruijn32tab"], apart := false, laid := [("math/bits.deBruijn32tab", laid_math_bits_deBruijn32tab)], narrowed := true }
def DyPartsUptoSaid : Prop := dyPartsUptoRow.holds Tryd.pinned (OpenSpec.upto dyPartsSpec)

end Rows
end Go.Proofs.YtaookeneeemfbaaDoor
