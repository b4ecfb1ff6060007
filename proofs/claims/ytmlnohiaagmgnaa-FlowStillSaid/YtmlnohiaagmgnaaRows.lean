/-
  No cell of these rows narrows 'for every input' (looked for: loops, veiled, ifaces, maps, wideKeys, modest, calm, conditions, laid).
  DERIVED. THE GIVEN ROWS OF THIS SEAT. 2 by the template 'for every input the law returns true; each argument reads behind the call as it read before'; 0 by the template 'total and deterministic' (their statements: YtmlnohiaagmgnaaTotals.lean).
  GIVEN WITH THE SEED: the statements are not yours to turn. If you find one false, say at which input.
  Laid BY PROGRAM, IN A SANDBOX (cutbox-rows.mjs): the forced cells as the released guide's own fill.sh prints them over the translation 1decedb8cc6a566b… (all of the seat's roots in one cut). By AI agents, Wed Nov 11 2026. No macro, syntax, notation, axiom, sorry.
-/
import Derived.Test.YtmlnohiaagmgnaaChecked
import GoSem.Claim
import GoSem.ClaimJoined
import GoSem.ClaimMapViews
import Derived.JoinedTies
import Derived.KernelRfl
namespace Go.Proofs.Ytmlnohiaagmgnaa
/- THE CELL 'sum', in the pinned program and in every row, IS THE sha256 OF THE DUMP (.gsa) THAT YtmlnohiaagmgnaaProg.lean LOADS. Nothing in Lean hashes anything: it is a label: what it is worth is what the hold of that sum in a sandbox is worth. -/
noncomputable def Try.pinned : Pinned := { name := "ytmlnohiaagmgnaa", sum := "1decedb8cc6a566b6e775330ff0506715c733f4d13fd1f813fc6f4f1eec38271", checked := Try.checked }
namespace Rows
def none {H : Type} : Left H := { results := [], args := [] }

/-- 'peloruslaw18.FlowStill': WHATEVER THE INPUT: true; the input reads as it did. -/
def flowStillSpec : ChangeSpec := { name := "flowStill", fn := fun _ => fun
  | [d] => { results := [.lit (.bool true)], args := [d] }
  | _ => none }
def flowStillRow : OpenClaim := { program := "ytmlnohiaagmgnaa", sum := "1decedb8cc6a566b6e775330ff0506715c733f4d13fd1f813fc6f4f1eec38271", func := "pelorus/peloruslaw18.FlowStill", spec := "flowStill", inPlace := ["math/bits.Add64", "math/bits.Sub64"], unfollowed := true, recurses := true, apart := false }
def FlowStillSaid : Prop := flowStillRow.holds Try.pinned (OpenSpec.ofChange flowStillSpec)

/-- ITS FALSE NEIGHBOUR: 'it returns false'. Refute it at one input. -/
def flowStillWrong : ChangeSpec := { name := "flowStill", fn := fun _ => fun
  | [d] => { results := [.lit (.bool false)], args := [d] }
  | _ => none }
def FlowStillWrongFalsely : Prop := flowStillRow.holds Try.pinned (OpenSpec.ofChange flowStillWrong)

/-- 'peloruslaw18.FlowWithin': WHATEVER THE INPUT: true; the input reads as it did. -/
def flowWithinSpec : ChangeSpec := { name := "flowWithin", fn := fun _ => fun
  | [d1, d2] => { results := [.lit (.bool true)], args := [d1, d2] }
  | _ => none }
def flowWithinRow : OpenClaim := { program := "ytmlnohiaagmgnaa", sum := "1decedb8cc6a566b6e775330ff0506715c733f4d13fd1f813fc6f4f1eec38271", func := "pelorus/peloruslaw18.FlowWithin", spec := "flowWithin", inPlace := ["math/bits.Add64", "math/bits.Sub64"], unfollowed := true, recurses := true, apart := false }
def FlowWithinSaid : Prop := flowWithinRow.holds Try.pinned (OpenSpec.ofChange flowWithinSpec)

/-- ITS FALSE NEIGHBOUR: 'it returns false'. Refute it at one input. -/
def flowWithinWrong : ChangeSpec := { name := "flowWithin", fn := fun _ => fun
  | [d1, d2] => { results := [.lit (.bool false)], args := [d1, d2] }
  | _ => none }
def FlowWithinWrongFalsely : Prop := flowWithinRow.holds Try.pinned (OpenSpec.ofChange flowWithinWrong)

/- THE SECOND FORM. 'bulk': how many values and letters a reading holds, each counted each time it is reached (what is shared counts as often as it is met; a slice's spare places count too). A statement '..UptoSaid' is the law's where the arguments, and the package variables that the reading takes, are together of bulk at most 1048576: NARROWER than '..Said'. Prove '..Said' where nothing that the law and all that it calls make is longer than what came in: it says more and counts as full. Else prove '..UptoSaid'. A law counts once. -/
mutual
def uptoBulk {H : Type} : DataW H → Nat
  | .lit (.string bytes) => bytes.length + 1
  | .lit _ => 1
  | .nil => 1
  | .ptr d => uptoBulk d + 1
  | .slice elems spare => uptoBulkAll elems + uptoBulkAll spare + 1
  | .agg parts => uptoBulkAll parts + 1
  | .iface _ d => uptoBulk d + 1
  | .map entries => uptoBulkEntries entries + 1
  | .held _ => 1
def uptoBulkAll {H : Type} : List (DataW H) → Nat
  | [] => 0
  | d :: r => uptoBulk d + uptoBulkAll r
def uptoBulkEntries {H : Type} : List (Lit × DataW H) → Nat
  | [] => 0
  | x :: r => uptoBulkEntry x + uptoBulkEntries r
def uptoBulkEntry {H : Type} : Lit × DataW H → Nat
  | (.string bytes, d) => bytes.length + uptoBulk d + 1
  | (_, d) => uptoBulk d + 1
 end
def uptoSmall : (H : Type) → List (DataW H) → Bool := fun _ ds => decide (uptoBulkAll ds ≤ 1048576)
def OpenSpec.upto (s : _root_.Go.ChangeSpec) : _root_.Go.OpenSpec := { _root_.Go.OpenSpec.ofChange s with cond := some uptoSmall }

/-- 'peloruslaw18.FlowStill', WHERE WHAT IT READS IS OF BULK AT MOST 1048576: true; the input reads as it did. -/
def flowStillUptoRow : OpenClaim := { program := "ytmlnohiaagmgnaa", sum := "1decedb8cc6a566b6e775330ff0506715c733f4d13fd1f813fc6f4f1eec38271", func := "pelorus/peloruslaw18.FlowStill", spec := "flowStill", inPlace := ["math/bits.Add64", "math/bits.Sub64"], unfollowed := true, recurses := true, apart := false, narrowed := true }
def FlowStillUptoSaid : Prop := flowStillUptoRow.holds Try.pinned (OpenSpec.upto flowStillSpec)

/-- 'peloruslaw18.FlowWithin', WHERE WHAT IT READS IS OF BULK AT MOST 1048576: true; the input reads as it did. -/
def flowWithinUptoRow : OpenClaim := { program := "ytmlnohiaagmgnaa", sum := "1decedb8cc6a566b6e775330ff0506715c733f4d13fd1f813fc6f4f1eec38271", func := "pelorus/peloruslaw18.FlowWithin", spec := "flowWithin", inPlace := ["math/bits.Add64", "math/bits.Sub64"], unfollowed := true, recurses := true, apart := false, narrowed := true }
def FlowWithinUptoSaid : Prop := flowWithinUptoRow.holds Try.pinned (OpenSpec.upto flowWithinSpec)

end Rows
end Go.Proofs.Ytmlnohiaagmgnaa
