/-
  No cell of these rows narrows 'for every input' (looked for: loops, veiled, ifaces, maps, wideKeys, modest, calm, conditions, laid).
  DERIVED. THE GIVEN ROWS OF THIS SEAT. 6 by the template 'for every input the law returns true; each argument reads behind the call as it read before'; 0 by the template 'total and deterministic' (their statements: YtbejmpocgnldnaaTotals.lean).
  GIVEN WITH THE SEED: the statements are not yours to turn. If you find one false, say at which input.
  Laid BY PROGRAM, IN A SANDBOX (cutbox-rows.mjs): the forced cells as the released guide's own fill.sh prints them over the translation 79ee6942cc793c78… (all of the seat's roots in one cut). By AI agents, Wed Nov 11 2026. No macro, syntax, notation, axiom, sorry.
-/
import Derived.Test.YtbejmpocgnldnaaChecked
import GoSem.Claim
import GoSem.ClaimJoined
import GoSem.ClaimMapViews
import Derived.JoinedTies
import Derived.KernelRfl
namespace Go.Proofs.Ytbejmpocgnldnaa
/- THE CELL 'sum', in the pinned program and in every row, IS THE sha256 OF THE DUMP (.gsa) THAT YtbejmpocgnldnaaProg.lean LOADS. Nothing in Lean hashes anything: it is a label: what it is worth is what the hold of that sum in a sandbox is worth. -/
noncomputable def Try.pinned : Pinned := { name := "ytbejmpocgnldnaa", sum := "79ee6942cc793c78c1994515b80582625c53fa5046d2c952c9c48a5a6de3899d", checked := Try.checked }
namespace Rows
def none {H : Type} : Left H := { results := [], args := [] }

/-- 'peloruslaw02.WholeProducts': WHATEVER THE INPUT: true; the input reads as it did. -/
def wholeProductsSpec : ChangeSpec := { name := "wholeProducts", fn := fun _ => fun
  | [d1, d2, d3] => { results := [.lit (.bool true)], args := [d1, d2, d3] }
  | _ => none }
def wholeProductsRow : OpenClaim := { program := "ytbejmpocgnldnaa", sum := "79ee6942cc793c78c1994515b80582625c53fa5046d2c952c9c48a5a6de3899d", func := "pelorus/peloruslaw02.WholeProducts", spec := "wholeProducts", named := ["math/bits.overflowError"], apart := false }
def WholeProductsSaid : Prop := wholeProductsRow.holds Try.pinned (OpenSpec.ofChange wholeProductsSpec)

/-- ITS FALSE NEIGHBOUR: 'it returns false'. Refute it at one input. -/
def wholeProductsWrong : ChangeSpec := { name := "wholeProducts", fn := fun _ => fun
  | [d1, d2, d3] => { results := [.lit (.bool false)], args := [d1, d2, d3] }
  | _ => none }
def WholeProductsWrongFalsely : Prop := wholeProductsRow.holds Try.pinned (OpenSpec.ofChange wholeProductsWrong)

/-- 'peloruslaw02.WholeMakes': WHATEVER THE INPUT: true; the input reads as it did. -/
def wholeMakesSpec : ChangeSpec := { name := "wholeMakes", fn := fun _ => fun
  | [d1, d2, d3] => { results := [.lit (.bool true)], args := [d1, d2, d3] }
  | _ => none }
def wholeMakesRow : OpenClaim := { program := "ytbejmpocgnldnaa", sum := "79ee6942cc793c78c1994515b80582625c53fa5046d2c952c9c48a5a6de3899d", func := "pelorus/peloruslaw02.WholeMakes", spec := "wholeMakes", named := ["math/bits.overflowError"], apart := false }
def WholeMakesSaid : Prop := wholeMakesRow.holds Try.pinned (OpenSpec.ofChange wholeMakesSpec)

/-- ITS FALSE NEIGHBOUR: 'it returns false'. Refute it at one input. -/
def wholeMakesWrong : ChangeSpec := { name := "wholeMakes", fn := fun _ => fun
  | [d1, d2, d3] => { results := [.lit (.bool false)], args := [d1, d2, d3] }
  | _ => none }
def WholeMakesWrongFalsely : Prop := wholeMakesRow.holds Try.pinned (OpenSpec.ofChange wholeMakesWrong)

/-- 'peloruslaw02.WholeBack': WHATEVER THE INPUT: true; the input reads as it did. -/
def wholeBackSpec : ChangeSpec := { name := "wholeBack", fn := fun _ => fun
  | [d1, d2] => { results := [.lit (.bool true)], args := [d1, d2] }
  | _ => none }
def wholeBackRow : OpenClaim := { program := "ytbejmpocgnldnaa", sum := "79ee6942cc793c78c1994515b80582625c53fa5046d2c952c9c48a5a6de3899d", func := "pelorus/peloruslaw02.WholeBack", spec := "wholeBack", named := ["math/bits.overflowError"], apart := false }
def WholeBackSaid : Prop := wholeBackRow.holds Try.pinned (OpenSpec.ofChange wholeBackSpec)

/-- ITS FALSE NEIGHBOUR: 'it returns false'. Refute it at one input. -/
def wholeBackWrong : ChangeSpec := { name := "wholeBack", fn := fun _ => fun
  | [d1, d2] => { results := [.lit (.bool false)], args := [d1, d2] }
  | _ => none }
def WholeBackWrongFalsely : Prop := wholeBackRow.holds Try.pinned (OpenSpec.ofChange wholeBackWrong)

/-- 'peloruslaw02.WholeOrder': WHATEVER THE INPUT: true; the input reads as it did. -/
def wholeOrderSpec : ChangeSpec := { name := "wholeOrder", fn := fun _ => fun
  | [d1, d2, d3] => { results := [.lit (.bool true)], args := [d1, d2, d3] }
  | _ => none }
def wholeOrderRow : OpenClaim := { program := "ytbejmpocgnldnaa", sum := "79ee6942cc793c78c1994515b80582625c53fa5046d2c952c9c48a5a6de3899d", func := "pelorus/peloruslaw02.WholeOrder", spec := "wholeOrder", named := ["math/bits.overflowError"], apart := false }
def WholeOrderSaid : Prop := wholeOrderRow.holds Try.pinned (OpenSpec.ofChange wholeOrderSpec)

/-- ITS FALSE NEIGHBOUR: 'it returns false'. Refute it at one input. -/
def wholeOrderWrong : ChangeSpec := { name := "wholeOrder", fn := fun _ => fun
  | [d1, d2, d3] => { results := [.lit (.bool false)], args := [d1, d2, d3] }
  | _ => none }
def WholeOrderWrongFalsely : Prop := wholeOrderRow.holds Try.pinned (OpenSpec.ofChange wholeOrderWrong)

/-- 'peloruslaw02.WholeSums': WHATEVER THE INPUT: true; the input reads as it did. -/
def wholeSumsSpec : ChangeSpec := { name := "wholeSums", fn := fun _ => fun
  | [d1, d2] => { results := [.lit (.bool true)], args := [d1, d2] }
  | _ => none }
def wholeSumsRow : OpenClaim := { program := "ytbejmpocgnldnaa", sum := "79ee6942cc793c78c1994515b80582625c53fa5046d2c952c9c48a5a6de3899d", func := "pelorus/peloruslaw02.WholeSums", spec := "wholeSums", named := ["math/bits.overflowError"], apart := false }
def WholeSumsSaid : Prop := wholeSumsRow.holds Try.pinned (OpenSpec.ofChange wholeSumsSpec)

/-- ITS FALSE NEIGHBOUR: 'it returns false'. Refute it at one input. -/
def wholeSumsWrong : ChangeSpec := { name := "wholeSums", fn := fun _ => fun
  | [d1, d2] => { results := [.lit (.bool false)], args := [d1, d2] }
  | _ => none }
def WholeSumsWrongFalsely : Prop := wholeSumsRow.holds Try.pinned (OpenSpec.ofChange wholeSumsWrong)

/-- 'peloruslaw02.WholeRing': WHATEVER THE INPUT: true; the input reads as it did. -/
def wholeRingSpec : ChangeSpec := { name := "wholeRing", fn := fun _ => fun
  | [d1, d2, d3] => { results := [.lit (.bool true)], args := [d1, d2, d3] }
  | _ => none }
def wholeRingRow : OpenClaim := { program := "ytbejmpocgnldnaa", sum := "79ee6942cc793c78c1994515b80582625c53fa5046d2c952c9c48a5a6de3899d", func := "pelorus/peloruslaw02.WholeRing", spec := "wholeRing", named := ["math/bits.overflowError"], apart := false }
def WholeRingSaid : Prop := wholeRingRow.holds Try.pinned (OpenSpec.ofChange wholeRingSpec)

/-- ITS FALSE NEIGHBOUR: 'it returns false'. Refute it at one input. -/
def wholeRingWrong : ChangeSpec := { name := "wholeRing", fn := fun _ => fun
  | [d1, d2, d3] => { results := [.lit (.bool false)], args := [d1, d2, d3] }
  | _ => none }
def WholeRingWrongFalsely : Prop := wholeRingRow.holds Try.pinned (OpenSpec.ofChange wholeRingWrong)

/- THE SECOND FORM. 'bulk': how many values and letters a reading holds, each counted each time it is reached (what is shared counts as often as it is met; a slice's spare places count too). A statement '..UptoSaid' is the law's where the arguments, and the package variables that the reading takes, are together of bulk at most 1048576: NARROWER than '..Said'. Prove '..Said' where nothing that the law and all that it calls make is longer than what came in: it says more and counts as full. Else prove '..UptoSaid'. A law counts once. -/
mutual
def uptoBulk {H : Type} : DataW H → Nat
  | .lit (.string bytes) => bytes.length + 1
  | .lit _ => 1
  | .nil => 1
  | .ptr d => uptoBulk d + 1
  | .slice elems spare => uptoBulkAll elems + uptoBulkAll spare + 1
  | .agg parts => uptoBulkAll parts + 1
  | .iface _ d => uptoBulk d + 1
  | .map entries => uptoBulkEntries entries + 1
  | .held _ => 1
def uptoBulkAll {H : Type} : List (DataW H) → Nat
  | [] => 0
  | d :: r => uptoBulk d + uptoBulkAll r
def uptoBulkEntries {H : Type} : List (Lit × DataW H) → Nat
  | [] => 0
  | x :: r => uptoBulkEntry x + uptoBulkEntries r
def uptoBulkEntry {H : Type} : Lit × DataW H → Nat
  | (.string bytes, d) => bytes.length + uptoBulk d + 1
  | (_, d) => uptoBulk d + 1
 end
def uptoSmall : (H : Type) → List (DataW H) → Bool := fun _ ds => decide (uptoBulkAll ds ≤ 1048576)
def OpenSpec.upto (s : _root_.Go.ChangeSpec) : _root_.Go.OpenSpec := { _root_.Go.OpenSpec.ofChange s with cond := some uptoSmall }

/-- 'peloruslaw02.WholeProducts', WHERE WHAT IT READS IS OF BULK AT MOST 1048576: true; the input reads as it did. -/
def wholeProductsUptoRow : OpenClaim := { program := "ytbejmpocgnldnaa", sum := "79ee6942cc793c78c1994515b80582625c53fa5046d2c952c9c48a5a6de3899d", func := "pelorus/peloruslaw02.WholeProducts", spec := "wholeProducts", named := ["math/bits.overflowError"], apart := false, narrowed := true }
def WholeProductsUptoSaid : Prop := wholeProductsUptoRow.holds Try.pinned (OpenSpec.upto wholeProductsSpec)

/-- 'peloruslaw02.WholeMakes', WHERE WHAT IT READS IS OF BULK AT MOST 1048576: true; the input reads as it did. -/
def wholeMakesUptoRow : OpenClaim := { program := "ytbejmpocgnldnaa", sum := "79ee6942cc793c78c1994515b80582625c53fa5046d2c952c9c48a5a6de3899d", func := "pelorus/peloruslaw02.WholeMakes", spec := "wholeMakes", named := ["math/bits.overflowError"], apart := false, narrowed := true }
def WholeMakesUptoSaid : Prop := wholeMakesUptoRow.holds Try.pinned (OpenSpec.upto wholeMakesSpec)

/-- 'peloruslaw02.WholeBack', WHERE WHAT IT READS IS OF BULK AT MOST 1048576: true; the input reads as it did. -/
def wholeBackUptoRow : OpenClaim := { program := "ytbejmpocgnldnaa", sum := "79ee6942cc793c78c1994515b80582625c53fa5046d2c952c9c48a5a6de3899d", func := "pelorus/peloruslaw02.WholeBack", spec := "wholeBack", named := ["math/bits.overflowError"], apart := false, narrowed := true }
def WholeBackUptoSaid : Prop := wholeBackUptoRow.holds Try.pinned (OpenSpec.upto wholeBackSpec)

/-- 'peloruslaw02.WholeOrder', WHERE WHAT IT READS IS OF BULK AT MOST 1048576: true; the input reads as it did. -/
def wholeOrderUptoRow : OpenClaim := { program := "ytbejmpocgnldnaa", sum := "79ee6942cc793c78c1994515b80582625c53fa5046d2c952c9c48a5a6de3899d", func := "pelorus/peloruslaw02.WholeOrder", spec := "wholeOrder", named := ["math/bits.overflowError"], apart := false, narrowed := true }
def WholeOrderUptoSaid : Prop := wholeOrderUptoRow.holds Try.pinned (OpenSpec.upto wholeOrderSpec)

/-- 'peloruslaw02.WholeSums', WHERE WHAT IT READS IS OF BULK AT MOST 1048576: true; the input reads as it did. -/
def wholeSumsUptoRow : OpenClaim := { program := "ytbejmpocgnldnaa", sum := "79ee6942cc793c78c1994515b80582625c53fa5046d2c952c9c48a5a6de3899d", func := "pelorus/peloruslaw02.WholeSums", spec := "wholeSums", named := ["math/bits.overflowError"], apart := false, narrowed := true }
def WholeSumsUptoSaid : Prop := wholeSumsUptoRow.holds Try.pinned (OpenSpec.upto wholeSumsSpec)

/-- 'peloruslaw02.WholeRing', WHERE WHAT IT READS IS OF BULK AT MOST 1048576: true; the input reads as it did. -/
def wholeRingUptoRow : OpenClaim := { program := "ytbejmpocgnldnaa", sum := "79ee6942cc793c78c1994515b80582625c53fa5046d2c952c9c48a5a6de3899d", func := "pelorus/peloruslaw02.WholeRing", spec := "wholeRing", named := ["math/bits.overflowError"], apart := false, narrowed := true }
def WholeRingUptoSaid : Prop := wholeRingUptoRow.holds Try.pinned (OpenSpec.upto wholeRingSpec)

end Rows
end Go.Proofs.Ytbejmpocgnldnaa
