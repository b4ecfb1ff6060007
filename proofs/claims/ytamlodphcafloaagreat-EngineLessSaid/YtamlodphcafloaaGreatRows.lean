/-
  No cell of these rows narrows 'for every input' (looked for: loops, veiled, ifaces, maps, wideKeys, modest, calm, conditions, laid).
  DERIVED. THE GIVEN ROWS OF THIS SEAT. 4 by the template 'for every input the law returns true; each argument reads behind the call as it read before'; 0 by the template 'total and deterministic' (their statements: YtamlodphcafloaaGreatTotals.lean).
  GIVEN WITH THE SEED: the statements are not yours to turn. If you find one false, say at which input.
  Laid BY PROGRAM, IN A SANDBOX (cutbox-rows.mjs): the forced cells as the released guide's own fill.sh prints them over the translation 0b765b5ca51f0fd3… (all of the seat's roots in one cut). By AI agents, Wed Nov 11 2026. No macro, syntax, notation, axiom, sorry.
-/
import Derived.Test.YtamlodphcafloaaGreatChecked
import GoSem.Claim
import GoSem.ClaimJoined
import GoSem.ClaimMapViews
import Derived.JoinedTies
import Derived.KernelRfl
namespace Go.Proofs.YtamlodphcafloaaGreat
/- THE CELL 'sum', in the pinned program and in every row, IS THE sha256 OF THE DUMP (.gsa) THAT YtamlodphcafloaaGreatProg.lean LOADS. Nothing in Lean hashes anything: it is a label: what it is worth is what the hold of that sum in a sandbox is worth. -/
noncomputable def Tryz.pinned : Pinned := { name := "ytamlodphcafloaagreat", sum := "0b765b5ca51f0fd3f95a1c26c746e1323051919f87169ad0b717d66eed611676", checked := Tryz.checked }
namespace Rows
def none {H : Type} : Left H := { results := [], args := [] }

/-- 'peloruslaw22.EngineDoes': WHATEVER THE INPUT: true; the input reads as it did. -/
def engineDoesSpec : ChangeSpec := { name := "engineDoes", fn := fun _ => fun
  | [d1, d2] => { results := [.lit (.bool true)], args := [d1, d2] }
  | _ => none }
def engineDoesRow : OpenClaim := { program := "ytamlodphcafloaagreat", sum := "0b765b5ca51f0fd3f95a1c26c746e1323051919f87169ad0b717d66eed611676", func := "pelorus/peloruslaw22.EngineDoes", spec := "engineDoes", inPlace := ["math/bits.Add64", "math/bits.Sub64"], unfollowed := true, recurses := true, named := ["math/bits.overflowError"], apart := false }
def EngineDoesSaid : Prop := engineDoesRow.holds Tryz.pinned (OpenSpec.ofChange engineDoesSpec)

/-- ITS FALSE NEIGHBOUR: 'it returns false'. Refute it at one input. -/
def engineDoesWrong : ChangeSpec := { name := "engineDoes", fn := fun _ => fun
  | [d1, d2] => { results := [.lit (.bool false)], args := [d1, d2] }
  | _ => none }
def EngineDoesWrongFalsely : Prop := engineDoesRow.holds Tryz.pinned (OpenSpec.ofChange engineDoesWrong)

/-- 'peloruslaw22.EngineRefuses': WHATEVER THE INPUT: true; the input reads as it did. -/
def engineRefusesSpec : ChangeSpec := { name := "engineRefuses", fn := fun _ => fun
  | [d1, d2] => { results := [.lit (.bool true)], args := [d1, d2] }
  | _ => none }
def engineRefusesRow : OpenClaim := { program := "ytamlodphcafloaagreat", sum := "0b765b5ca51f0fd3f95a1c26c746e1323051919f87169ad0b717d66eed611676", func := "pelorus/peloruslaw22.EngineRefuses", spec := "engineRefuses", inPlace := ["math/bits.Add64", "math/bits.Sub64"], unfollowed := true, recurses := true, named := ["math/bits.overflowError"], apart := false }
def EngineRefusesSaid : Prop := engineRefusesRow.holds Tryz.pinned (OpenSpec.ofChange engineRefusesSpec)

/-- ITS FALSE NEIGHBOUR: 'it returns false'. Refute it at one input. -/
def engineRefusesWrong : ChangeSpec := { name := "engineRefuses", fn := fun _ => fun
  | [d1, d2] => { results := [.lit (.bool false)], args := [d1, d2] }
  | _ => none }
def EngineRefusesWrongFalsely : Prop := engineRefusesRow.holds Tryz.pinned (OpenSpec.ofChange engineRefusesWrong)

/-- 'peloruslaw22.EngineAgain': WHATEVER THE INPUT: true; the input reads as it did. -/
def engineAgainSpec : ChangeSpec := { name := "engineAgain", fn := fun _ => fun
  | [d1, d2] => { results := [.lit (.bool true)], args := [d1, d2] }
  | _ => none }
def engineAgainRow : OpenClaim := { program := "ytamlodphcafloaagreat", sum := "0b765b5ca51f0fd3f95a1c26c746e1323051919f87169ad0b717d66eed611676", func := "pelorus/peloruslaw22.EngineAgain", spec := "engineAgain", inPlace := ["math/bits.Add64", "math/bits.Sub64"], unfollowed := true, recurses := true, named := ["math/bits.overflowError"], apart := false }
def EngineAgainSaid : Prop := engineAgainRow.holds Tryz.pinned (OpenSpec.ofChange engineAgainSpec)

/-- ITS FALSE NEIGHBOUR: 'it returns false'. Refute it at one input. -/
def engineAgainWrong : ChangeSpec := { name := "engineAgain", fn := fun _ => fun
  | [d1, d2] => { results := [.lit (.bool false)], args := [d1, d2] }
  | _ => none }
def EngineAgainWrongFalsely : Prop := engineAgainRow.holds Tryz.pinned (OpenSpec.ofChange engineAgainWrong)

/-- 'peloruslaw22.EngineLess': WHATEVER THE INPUT: true; the input reads as it did. -/
def engineLessSpec : ChangeSpec := { name := "engineLess", fn := fun _ => fun
  | [d1, d2] => { results := [.lit (.bool true)], args := [d1, d2] }
  | _ => none }
def engineLessRow : OpenClaim := { program := "ytamlodphcafloaagreat", sum := "0b765b5ca51f0fd3f95a1c26c746e1323051919f87169ad0b717d66eed611676", func := "pelorus/peloruslaw22.EngineLess", spec := "engineLess", inPlace := ["math/bits.Add64", "math/bits.Sub64"], unfollowed := true, recurses := true, named := ["math/bits.overflowError"], apart := false }
def EngineLessSaid : Prop := engineLessRow.holds Tryz.pinned (OpenSpec.ofChange engineLessSpec)

/-- ITS FALSE NEIGHBOUR: 'it returns false'. Refute it at one input. -/
def engineLessWrong : ChangeSpec := { name := "engineLess", fn := fun _ => fun
  | [d1, d2] => { results := [.lit (.bool false)], args := [d1, d2] }
  | _ => none }
def EngineLessWrongFalsely : Prop := engineLessRow.holds Tryz.pinned (OpenSpec.ofChange engineLessWrong)

/- THE SECOND FORM. 'bulk': how many values and letters a reading holds, each counted each time it is reached (what is shared counts as often as it is met; a slice's spare places count too). A statement '..UptoSaid' is the law's where the arguments, and the package variables that the reading takes, are together of bulk at most 1048576: NARROWER than '..Said'. Prove '..Said' where nothing that the law and all that it calls make is longer than what came in: it says more and counts as full. Else prove '..UptoSaid'. A law counts once. -/
mutual
def uptoBulk {H : Type} : DataW H → Nat
  | .lit (.string bytes) => bytes.length + 1
  | .lit _ => 1
  | .nil => 1
  | .ptr d => uptoBulk d + 1
  | .slice elems spare => uptoBulkAll elems + uptoBulkAll spare + 1
  | .agg parts => uptoBulkAll parts + 1
  | .iface _ d => uptoBulk d + 1
  | .map entries => uptoBulkEntries entries + 1
  | .held _ => 1
def uptoBulkAll {H : Type} : List (DataW H) → Nat
  | [] => 0
  | d :: r => uptoBulk d + uptoBulkAll r
def uptoBulkEntries {H : Type} : List (Lit × DataW H) → Nat
  | [] => 0
  | x :: r => uptoBulkEntry x + uptoBulkEntries r
def uptoBulkEntry {H : Type} : Lit × DataW H → Nat
  | (.string bytes, d) => bytes.length + uptoBulk d + 1
  | (_, d) => uptoBulk d + 1
 end
def uptoSmall : (H : Type) → List (DataW H) → Bool := fun _ ds => decide (uptoBulkAll ds ≤ 1048576)
def OpenSpec.upto (s : _root_.Go.ChangeSpec) : _root_.Go.OpenSpec := { _root_.Go.OpenSpec.ofChange s with cond := some uptoSmall }

/-- 'peloruslaw22.EngineDoes', WHERE WHAT IT READS IS OF BULK AT MOST 1048576: true; the input reads as it did. -/
def engineDoesUptoRow : OpenClaim := { program := "ytamlodphcafloaagreat", sum := "0b765b5ca51f0fd3f95a1c26c746e1323051919f87169ad0b717d66eed611676", func := "pelorus/peloruslaw22.EngineDoes", spec := "engineDoes", inPlace := ["math/bits.Add64", "math/bits.Sub64"], unfollowed := true, recurses := true, named := ["math/bits.overflowError"], apart := false, narrowed := true }
def EngineDoesUptoSaid : Prop := engineDoesUptoRow.holds Tryz.pinned (OpenSpec.upto engineDoesSpec)

/-- 'peloruslaw22.EngineRefuses', WHERE WHAT IT READS IS OF BULK AT MOST 1048576: true; the input reads as it did. -/
def engineRefusesUptoRow : OpenClaim := { program := "ytamlodphcafloaagreat", sum := "0b765b5ca51f0fd3f95a1c26c746e1323051919f87169ad0b717d66eed611676", func := "pelorus/peloruslaw22.EngineRefuses", spec := "engineRefuses", inPlace := ["math/bits.Add64", "math/bits.Sub64"], unfollowed := true, recurses := true, named := ["math/bits.overflowError"], apart := false, narrowed := true }
def EngineRefusesUptoSaid : Prop := engineRefusesUptoRow.holds Tryz.pinned (OpenSpec.upto engineRefusesSpec)

/-- 'peloruslaw22.EngineAgain', WHERE WHAT IT READS IS OF BULK AT MOST 1048576: true; the input reads as it did. -/
def engineAgainUptoRow : OpenClaim := { program := "ytamlodphcafloaagreat", sum := "0b765b5ca51f0fd3f95a1c26c746e1323051919f87169ad0b717d66eed611676", func := "pelorus/peloruslaw22.EngineAgain", spec := "engineAgain", inPlace := ["math/bits.Add64", "math/bits.Sub64"], unfollowed := true, recurses := true, named := ["math/bits.overflowError"], apart := false, narrowed := true }
def EngineAgainUptoSaid : Prop := engineAgainUptoRow.holds Tryz.pinned (OpenSpec.upto engineAgainSpec)

/-- 'peloruslaw22.EngineLess', WHERE WHAT IT READS IS OF BULK AT MOST 1048576: true; the input reads as it did. -/
def engineLessUptoRow : OpenClaim := { program := "ytamlodphcafloaagreat", sum := "0b765b5ca51f0fd3f95a1c26c746e1323051919f87169ad0b717d66eed611676", func := "pelorus/peloruslaw22.EngineLess", spec := "engineLess", inPlace := ["math/bits.Add64", "math/bits.Sub64"], unfollowed := true, recurses := true, named := ["math/bits.overflowError"], apart := false, narrowed := true }
def EngineLessUptoSaid : Prop := engineLessUptoRow.holds Tryz.pinned (OpenSpec.upto engineLessSpec)

end Rows
end Go.Proofs.YtamlodphcafloaaGreat
