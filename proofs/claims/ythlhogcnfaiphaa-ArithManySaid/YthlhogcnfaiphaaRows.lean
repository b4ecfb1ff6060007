/-
  No cell of these rows narrows 'for every input' (looked for: loops, veiled, ifaces, maps, wideKeys, modest, calm, conditions, laid).
  DERIVED. THE GIVEN ROWS OF THIS SEAT. 7 by the template 'for every input the law returns true; each argument reads behind the call as it read before'; 0 by the template 'total and deterministic' (their statements: YthlhogcnfaiphaaTotals.lean).
  GIVEN WITH THE SEED: the statements are not yours to turn. If you find one false, say at which input.
  Laid BY PROGRAM, IN A SANDBOX (cutbox-rows.mjs): the forced cells as the released guide's own fill.sh prints them over the translation 4cfcfbd19b2417d6… (all of the seat's roots in one cut). By AI agents, Wed Nov 11 2026. No macro, syntax, notation, axiom, sorry.
-/
import Derived.Test.YthlhogcnfaiphaaChecked
import GoSem.Claim
import GoSem.ClaimJoined
import GoSem.ClaimMapViews
import Derived.JoinedTies
import Derived.KernelRfl
namespace Go.Proofs.Ythlhogcnfaiphaa
/- THE CELL 'sum', in the pinned program and in every row, IS THE sha256 OF THE DUMP (.gsa) THAT YthlhogcnfaiphaaProg.lean LOADS. Nothing in Lean hashes anything: it is a label: what it is worth is what the hold of that sum in a sandbox is worth. -/
noncomputable def Try.pinned : Pinned := { name := "ythlhogcnfaiphaa", sum := "4cfcfbd19b2417d66e6ae63cde625d2666c4510a233f35edb2c6ef597bb83196", checked := Try.checked }
namespace Rows
def none {H : Type} : Left H := { results := [], args := [] }

/-- 'peloruslaw06.ArithTurns': WHATEVER THE INPUT: true; the input reads as it did. -/
def arithTurnsSpec : ChangeSpec := { name := "arithTurns", fn := fun _ => fun
  | [d1, d2, d3] => { results := [.lit (.bool true)], args := [d1, d2, d3] }
  | _ => none }
def arithTurnsRow : OpenClaim := { program := "ythlhogcnfaiphaa", sum := "4cfcfbd19b2417d66e6ae63cde625d2666c4510a233f35edb2c6ef597bb83196", func := "pelorus/peloruslaw06.ArithTurns", spec := "arithTurns", inPlace := ["math/bits.Add64", "math/bits.Sub64"], apart := false }
def ArithTurnsSaid : Prop := arithTurnsRow.holds Try.pinned (OpenSpec.ofChange arithTurnsSpec)

/-- ITS FALSE NEIGHBOUR: 'it returns false'. Refute it at one input. -/
def arithTurnsWrong : ChangeSpec := { name := "arithTurns", fn := fun _ => fun
  | [d1, d2, d3] => { results := [.lit (.bool false)], args := [d1, d2, d3] }
  | _ => none }
def ArithTurnsWrongFalsely : Prop := arithTurnsRow.holds Try.pinned (OpenSpec.ofChange arithTurnsWrong)

/-- 'peloruslaw06.ArithSums': WHATEVER THE INPUT: true; the input reads as it did. -/
def arithSumsSpec : ChangeSpec := { name := "arithSums", fn := fun _ => fun
  | [d1, d2, d3] => { results := [.lit (.bool true)], args := [d1, d2, d3] }
  | _ => none }
def arithSumsRow : OpenClaim := { program := "ythlhogcnfaiphaa", sum := "4cfcfbd19b2417d66e6ae63cde625d2666c4510a233f35edb2c6ef597bb83196", func := "pelorus/peloruslaw06.ArithSums", spec := "arithSums", inPlace := ["math/bits.Add64", "math/bits.Sub64"], apart := false }
def ArithSumsSaid : Prop := arithSumsRow.holds Try.pinned (OpenSpec.ofChange arithSumsSpec)

/-- ITS FALSE NEIGHBOUR: 'it returns false'. Refute it at one input. -/
def arithSumsWrong : ChangeSpec := { name := "arithSums", fn := fun _ => fun
  | [d1, d2, d3] => { results := [.lit (.bool false)], args := [d1, d2, d3] }
  | _ => none }
def ArithSumsWrongFalsely : Prop := arithSumsRow.holds Try.pinned (OpenSpec.ofChange arithSumsWrong)

/-- 'peloruslaw06.ArithProducts': WHATEVER THE INPUT: true; the input reads as it did. -/
def arithProductsSpec : ChangeSpec := { name := "arithProducts", fn := fun _ => fun
  | [d1, d2, d3] => { results := [.lit (.bool true)], args := [d1, d2, d3] }
  | _ => none }
def arithProductsRow : OpenClaim := { program := "ythlhogcnfaiphaa", sum := "4cfcfbd19b2417d66e6ae63cde625d2666c4510a233f35edb2c6ef597bb83196", func := "pelorus/peloruslaw06.ArithProducts", spec := "arithProducts", inPlace := ["math/bits.Add64", "math/bits.Sub64"], apart := false }
def ArithProductsSaid : Prop := arithProductsRow.holds Try.pinned (OpenSpec.ofChange arithProductsSpec)

/-- ITS FALSE NEIGHBOUR: 'it returns false'. Refute it at one input. -/
def arithProductsWrong : ChangeSpec := { name := "arithProducts", fn := fun _ => fun
  | [d1, d2, d3] => { results := [.lit (.bool false)], args := [d1, d2, d3] }
  | _ => none }
def ArithProductsWrongFalsely : Prop := arithProductsRow.holds Try.pinned (OpenSpec.ofChange arithProductsWrong)

/-- 'peloruslaw06.ArithFar': WHATEVER THE INPUT: true; the input reads as it did. -/
def arithFarSpec : ChangeSpec := { name := "arithFar", fn := fun _ => fun
  | [d1, d2] => { results := [.lit (.bool true)], args := [d1, d2] }
  | _ => none }
def arithFarRow : OpenClaim := { program := "ythlhogcnfaiphaa", sum := "4cfcfbd19b2417d66e6ae63cde625d2666c4510a233f35edb2c6ef597bb83196", func := "pelorus/peloruslaw06.ArithFar", spec := "arithFar", inPlace := ["math/bits.Add64", "math/bits.Sub64"], apart := false }
def ArithFarSaid : Prop := arithFarRow.holds Try.pinned (OpenSpec.ofChange arithFarSpec)

/-- ITS FALSE NEIGHBOUR: 'it returns false'. Refute it at one input. -/
def arithFarWrong : ChangeSpec := { name := "arithFar", fn := fun _ => fun
  | [d1, d2] => { results := [.lit (.bool false)], args := [d1, d2] }
  | _ => none }
def ArithFarWrongFalsely : Prop := arithFarRow.holds Try.pinned (OpenSpec.ofChange arithFarWrong)

/-- 'peloruslaw06.ArithUnits': WHATEVER THE INPUT: true; the input reads as it did. -/
def arithUnitsSpec : ChangeSpec := { name := "arithUnits", fn := fun _ => fun
  | [d1, d2] => { results := [.lit (.bool true)], args := [d1, d2] }
  | _ => none }
def arithUnitsRow : OpenClaim := { program := "ythlhogcnfaiphaa", sum := "4cfcfbd19b2417d66e6ae63cde625d2666c4510a233f35edb2c6ef597bb83196", func := "pelorus/peloruslaw06.ArithUnits", spec := "arithUnits", inPlace := ["math/bits.Add64", "math/bits.Sub64"], apart := false }
def ArithUnitsSaid : Prop := arithUnitsRow.holds Try.pinned (OpenSpec.ofChange arithUnitsSpec)

/-- ITS FALSE NEIGHBOUR: 'it returns false'. Refute it at one input. -/
def arithUnitsWrong : ChangeSpec := { name := "arithUnits", fn := fun _ => fun
  | [d1, d2] => { results := [.lit (.bool false)], args := [d1, d2] }
  | _ => none }
def ArithUnitsWrongFalsely : Prop := arithUnitsRow.holds Try.pinned (OpenSpec.ofChange arithUnitsWrong)

/-- 'peloruslaw06.ArithGrows': WHATEVER THE INPUT: true; the input reads as it did. -/
def arithGrowsSpec : ChangeSpec := { name := "arithGrows", fn := fun _ => fun
  | [d1, d2, d3, d4] => { results := [.lit (.bool true)], args := [d1, d2, d3, d4] }
  | _ => none }
def arithGrowsRow : OpenClaim := { program := "ythlhogcnfaiphaa", sum := "4cfcfbd19b2417d66e6ae63cde625d2666c4510a233f35edb2c6ef597bb83196", func := "pelorus/peloruslaw06.ArithGrows", spec := "arithGrows", inPlace := ["math/bits.Add64", "math/bits.Sub64"], apart := false }
def ArithGrowsSaid : Prop := arithGrowsRow.holds Try.pinned (OpenSpec.ofChange arithGrowsSpec)

/-- ITS FALSE NEIGHBOUR: 'it returns false'. Refute it at one input. -/
def arithGrowsWrong : ChangeSpec := { name := "arithGrows", fn := fun _ => fun
  | [d1, d2, d3, d4] => { results := [.lit (.bool false)], args := [d1, d2, d3, d4] }
  | _ => none }
def ArithGrowsWrongFalsely : Prop := arithGrowsRow.holds Try.pinned (OpenSpec.ofChange arithGrowsWrong)

/-- 'peloruslaw06.ArithMany': WHATEVER THE INPUT: true; the input reads as it did. -/
def arithManySpec : ChangeSpec := { name := "arithMany", fn := fun _ => fun
  | [d1, d2] => { results := [.lit (.bool true)], args := [d1, d2] }
  | _ => none }
def arithManyRow : OpenClaim := { program := "ythlhogcnfaiphaa", sum := "4cfcfbd19b2417d66e6ae63cde625d2666c4510a233f35edb2c6ef597bb83196", func := "pelorus/peloruslaw06.ArithMany", spec := "arithMany", inPlace := ["math/bits.Add64", "math/bits.Sub64"], apart := false }
def ArithManySaid : Prop := arithManyRow.holds Try.pinned (OpenSpec.ofChange arithManySpec)

/-- ITS FALSE NEIGHBOUR: 'it returns false'. Refute it at one input. -/
def arithManyWrong : ChangeSpec := { name := "arithMany", fn := fun _ => fun
  | [d1, d2] => { results := [.lit (.bool false)], args := [d1, d2] }
  | _ => none }
def ArithManyWrongFalsely : Prop := arithManyRow.holds Try.pinned (OpenSpec.ofChange arithManyWrong)

/- THE SECOND FORM. 'bulk': how many values and letters a reading holds, each counted each time it is reached (what is shared counts as often as it is met; a slice's spare places count too). A statement '..UptoSaid' is the law's where the arguments, and the package variables that the reading takes, are together of bulk at most 1048576: NARROWER than '..Said'. Prove '..Said' where nothing that the law and all that it calls make is longer than what came in: it says more and counts as full. Else prove '..UptoSaid'. A law counts once. -/
mutual
def uptoBulk {H : Type} : DataW H → Nat
  | .lit (.string bytes) => bytes.length + 1
  | .lit _ => 1
  | .nil => 1
  | .ptr d => uptoBulk d + 1
  | .slice elems spare => uptoBulkAll elems + uptoBulkAll spare + 1
  | .agg parts => uptoBulkAll parts + 1
  | .iface _ d => uptoBulk d + 1
  | .map entries => uptoBulkEntries entries + 1
  | .held _ => 1
def uptoBulkAll {H : Type} : List (DataW H) → Nat
  | [] => 0
  | d :: r => uptoBulk d + uptoBulkAll r
def uptoBulkEntries {H : Type} : List (Lit × DataW H) → Nat
  | [] => 0
  | x :: r => uptoBulkEntry x + uptoBulkEntries r
def uptoBulkEntry {H : Type} : Lit × DataW H → Nat
  | (.string bytes, d) => bytes.length + uptoBulk d + 1
  | (_, d) => uptoBulk d + 1
 end
def uptoSmall : (H : Type) → List (DataW H) → Bool := fun _ ds => decide (uptoBulkAll ds ≤ 1048576)
def OpenSpec.upto (s : _root_.Go.ChangeSpec) : _root_.Go.OpenSpec := { _root_.Go.OpenSpec.ofChange s with cond := some uptoSmall }

/-- 'peloruslaw06.ArithTurns', WHERE WHAT IT READS IS OF BULK AT MOST 1048576: true; the input reads as it did. -/
def arithTurnsUptoRow : OpenClaim := { program := "ythlhogcnfaiphaa", sum := "4cfcfbd19b2417d66e6ae63cde625d2666c4510a233f35edb2c6ef597bb83196", func := "pelorus/peloruslaw06.ArithTurns", spec := "arithTurns", inPlace := ["math/bits.Add64", "math/bits.Sub64"], apart := false, narrowed := true }
def ArithTurnsUptoSaid : Prop := arithTurnsUptoRow.holds Try.pinned (OpenSpec.upto arithTurnsSpec)

/-- 'peloruslaw06.ArithSums', WHERE WHAT IT READS IS OF BULK AT MOST 1048576: true; the input reads as it did. -/
def arithSumsUptoRow : OpenClaim := { program := "ythlhogcnfaiphaa", sum := "4cfcfbd19b2417d66e6ae63cde625d2666c4510a233f35edb2c6ef597bb83196", func := "pelorus/peloruslaw06.ArithSums", spec := "arithSums", inPlace := ["math/bits.Add64", "math/bits.Sub64"], apart := false, narrowed := true }
def ArithSumsUptoSaid : Prop := arithSumsUptoRow.holds Try.pinned (OpenSpec.upto arithSumsSpec)

/-- 'peloruslaw06.ArithProducts', WHERE WHAT IT READS IS OF BULK AT MOST 1048576: true; the input reads as it did. -/
def arithProductsUptoRow : OpenClaim := { program := "ythlhogcnfaiphaa", sum := "4cfcfbd19b2417d66e6ae63cde625d2666c4510a233f35edb2c6ef597bb83196", func := "pelorus/peloruslaw06.ArithProducts", spec := "arithProducts", inPlace := ["math/bits.Add64", "math/bits.Sub64"], apart := false, narrowed := true }
def ArithProductsUptoSaid : Prop := arithProductsUptoRow.holds Try.pinned (OpenSpec.upto arithProductsSpec)

/-- 'peloruslaw06.ArithFar', WHERE WHAT IT READS IS OF BULK AT MOST 1048576: true; the input reads as it did. -/
def arithFarUptoRow : OpenClaim := { program := "ythlhogcnfaiphaa", sum := "4cfcfbd19b2417d66e6ae63cde625d2666c4510a233f35edb2c6ef597bb83196", func := "pelorus/peloruslaw06.ArithFar", spec := "arithFar", inPlace := ["math/bits.Add64", "math/bits.Sub64"], apart := false, narrowed := true }
def ArithFarUptoSaid : Prop := arithFarUptoRow.holds Try.pinned (OpenSpec.upto arithFarSpec)

/-- 'peloruslaw06.ArithUnits', WHERE WHAT IT READS IS OF BULK AT MOST 1048576: true; the input reads as it did. -/
def arithUnitsUptoRow : OpenClaim := { program := "ythlhogcnfaiphaa", sum := "4cfcfbd19b2417d66e6ae63cde625d2666c4510a233f35edb2c6ef597bb83196", func := "pelorus/peloruslaw06.ArithUnits", spec := "arithUnits", inPlace := ["math/bits.Add64", "math/bits.Sub64"], apart := false, narrowed := true }
def ArithUnitsUptoSaid : Prop := arithUnitsUptoRow.holds Try.pinned (OpenSpec.upto arithUnitsSpec)

/-- 'peloruslaw06.ArithGrows', WHERE WHAT IT READS IS OF BULK AT MOST 1048576: true; the input reads as it did. -/
def arithGrowsUptoRow : OpenClaim := { program := "ythlhogcnfaiphaa", sum := "4cfcfbd19b2417d66e6ae63cde625d2666c4510a233f35edb2c6ef597bb83196", func := "pelorus/peloruslaw06.ArithGrows", spec := "arithGrows", inPlace := ["math/bits.Add64", "math/bits.Sub64"], apart := false, narrowed := true }
def ArithGrowsUptoSaid : Prop := arithGrowsUptoRow.holds Try.pinned (OpenSpec.upto arithGrowsSpec)

/-- 'peloruslaw06.ArithMany', WHERE WHAT IT READS IS OF BULK AT MOST 1048576: true; the input reads as it did. -/
def arithManyUptoRow : OpenClaim := { program := "ythlhogcnfaiphaa", sum := "4cfcfbd19b2417d66e6ae63cde625d2666c4510a233f35edb2c6ef597bb83196", func := "pelorus/peloruslaw06.ArithMany", spec := "arithMany", inPlace := ["math/bits.Add64", "math/bits.Sub64"], apart := false, narrowed := true }
def ArithManyUptoSaid : Prop := arithManyUptoRow.holds Try.pinned (OpenSpec.upto arithManySpec)

end Rows
end Go.Proofs.Ythlhogcnfaiphaa
