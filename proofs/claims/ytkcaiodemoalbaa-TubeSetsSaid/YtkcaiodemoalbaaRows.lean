/-
  No cell of these rows narrows 'for every input' (looked for: loops, veiled, ifaces, maps, wideKeys, modest, calm, conditions, laid).
  DERIVED. THE GIVEN ROWS OF THIS SEAT. 4 by the template 'for every input the law returns true; each argument reads behind the call as it read before'; 0 by the template 'total and deterministic' (their statements: YtkcaiodemoalbaaTotals.lean).
  GIVEN WITH THE SEED: the statements are not yours to turn. If you find one false, say at which input.
  Laid BY PROGRAM, IN A SANDBOX (cutbox-rows.mjs): the forced cells as the released guide's own fill.sh prints them over the translation d0a0a9195fe48e84… (all of the seat's roots in one cut). By AI agents, Wed Nov 11 2026. No macro, syntax, notation, axiom, sorry.
-/
import Derived.Test.YtkcaiodemoalbaaChecked
import GoSem.Claim
import GoSem.ClaimJoined
import GoSem.ClaimMapViews
import Derived.JoinedTies
import Derived.KernelRfl
namespace Go.Proofs.Ytkcaiodemoalbaa
/- THE CELL 'sum', in the pinned program and in every row, IS THE sha256 OF THE DUMP (.gsa) THAT YtkcaiodemoalbaaProg.lean LOADS. Nothing in Lean hashes anything: it is a label: what it is worth is what the hold of that sum in a sandbox is worth. -/
noncomputable def Try.pinned : Pinned := { name := "ytkcaiodemoalbaa", sum := "d0a0a9195fe48e84a2d656e78cc049f3febb962dcbf88eb785955eaa8f6e96a4", checked := Try.checked }
namespace Rows
def none {H : Type} : Left H := { results := [], args := [] }

/-- 'peloruslaw17.TubeTells': WHATEVER THE INPUT: true; the input reads as it did. -/
def tubeTellsSpec : ChangeSpec := { name := "tubeTells", fn := fun _ => fun
  | [d1, d2, d3] => { results := [.lit (.bool true)], args := [d1, d2, d3] }
  | _ => none }
def tubeTellsRow : OpenClaim := { program := "ytkcaiodemoalbaa", sum := "d0a0a9195fe48e84a2d656e78cc049f3febb962dcbf88eb785955eaa8f6e96a4", func := "pelorus/peloruslaw17.TubeTells", spec := "tubeTells", unfollowed := true, recurses := true, apart := false }
def TubeTellsSaid : Prop := tubeTellsRow.holds Try.pinned (OpenSpec.ofChange tubeTellsSpec)

/-- ITS FALSE NEIGHBOUR: 'it returns false'. Refute it at one input. -/
def tubeTellsWrong : ChangeSpec := { name := "tubeTells", fn := fun _ => fun
  | [d1, d2, d3] => { results := [.lit (.bool false)], args := [d1, d2, d3] }
  | _ => none }
def TubeTellsWrongFalsely : Prop := tubeTellsRow.holds Try.pinned (OpenSpec.ofChange tubeTellsWrong)

/-- 'peloruslaw17.TubeMakes': WHATEVER THE INPUT: true; the input reads as it did. -/
def tubeMakesSpec : ChangeSpec := { name := "tubeMakes", fn := fun _ => fun
  | [d1, d2, d3, d4] => { results := [.lit (.bool true)], args := [d1, d2, d3, d4] }
  | _ => none }
def tubeMakesRow : OpenClaim := { program := "ytkcaiodemoalbaa", sum := "d0a0a9195fe48e84a2d656e78cc049f3febb962dcbf88eb785955eaa8f6e96a4", func := "pelorus/peloruslaw17.TubeMakes", spec := "tubeMakes", unfollowed := true, recurses := true, apart := false }
def TubeMakesSaid : Prop := tubeMakesRow.holds Try.pinned (OpenSpec.ofChange tubeMakesSpec)

/-- ITS FALSE NEIGHBOUR: 'it returns false'. Refute it at one input. -/
def tubeMakesWrong : ChangeSpec := { name := "tubeMakes", fn := fun _ => fun
  | [d1, d2, d3, d4] => { results := [.lit (.bool false)], args := [d1, d2, d3, d4] }
  | _ => none }
def TubeMakesWrongFalsely : Prop := tubeMakesRow.holds Try.pinned (OpenSpec.ofChange tubeMakesWrong)

/-- 'peloruslaw17.TubeMeets': WHATEVER THE INPUT: true; the input reads as it did. -/
def tubeMeetsSpec : ChangeSpec := { name := "tubeMeets", fn := fun _ => fun
  | [d1, d2] => { results := [.lit (.bool true)], args := [d1, d2] }
  | _ => none }
def tubeMeetsRow : OpenClaim := { program := "ytkcaiodemoalbaa", sum := "d0a0a9195fe48e84a2d656e78cc049f3febb962dcbf88eb785955eaa8f6e96a4", func := "pelorus/peloruslaw17.TubeMeets", spec := "tubeMeets", unfollowed := true, recurses := true, apart := false }
def TubeMeetsSaid : Prop := tubeMeetsRow.holds Try.pinned (OpenSpec.ofChange tubeMeetsSpec)

/-- ITS FALSE NEIGHBOUR: 'it returns false'. Refute it at one input. -/
def tubeMeetsWrong : ChangeSpec := { name := "tubeMeets", fn := fun _ => fun
  | [d1, d2] => { results := [.lit (.bool false)], args := [d1, d2] }
  | _ => none }
def TubeMeetsWrongFalsely : Prop := tubeMeetsRow.holds Try.pinned (OpenSpec.ofChange tubeMeetsWrong)

/-- 'peloruslaw17.TubeSets': WHATEVER THE INPUT: true; the input reads as it did. -/
def tubeSetsSpec : ChangeSpec := { name := "tubeSets", fn := fun _ => fun
  | [d1, d2, d3] => { results := [.lit (.bool true)], args := [d1, d2, d3] }
  | _ => none }
def tubeSetsRow : OpenClaim := { program := "ytkcaiodemoalbaa", sum := "d0a0a9195fe48e84a2d656e78cc049f3febb962dcbf88eb785955eaa8f6e96a4", func := "pelorus/peloruslaw17.TubeSets", spec := "tubeSets", unfollowed := true, recurses := true, apart := false }
def TubeSetsSaid : Prop := tubeSetsRow.holds Try.pinned (OpenSpec.ofChange tubeSetsSpec)

/-- ITS FALSE NEIGHBOUR: 'it returns false'. Refute it at one input. -/
def tubeSetsWrong : ChangeSpec := { name := "tubeSets", fn := fun _ => fun
  | [d1, d2, d3] => { results := [.lit (.bool false)], args := [d1, d2, d3] }
  | _ => none }
def TubeSetsWrongFalsely : Prop := tubeSetsRow.holds Try.pinned (OpenSpec.ofChange tubeSetsWrong)

/- THE SECOND FORM. 'bulk': how many values and letters a reading holds, each counted each time it is reached (what is shared counts as often as it is met; a slice's spare places count too). A statement '..UptoSaid' is the law's where the arguments, and the package variables that the reading takes, are together of bulk at most 1048576: NARROWER than '..Said'. Prove '..Said' where nothing that the law and all that it calls make is longer than what came in: it says more and counts as full. Else prove '..UptoSaid'. A law counts once. -/
mutual
def uptoBulk {H : Type} : DataW H → Nat
  | .lit (.string bytes) => bytes.length + 1
  | .lit _ => 1
  | .nil => 1
  | .ptr d => uptoBulk d + 1
  | .slice elems spare => uptoBulkAll elems + uptoBulkAll spare + 1
  | .agg parts => uptoBulkAll parts + 1
  | .iface _ d => uptoBulk d + 1
  | .map entries => uptoBulkEntries entries + 1
  | .held _ => 1
def uptoBulkAll {H : Type} : List (DataW H) → Nat
  | [] => 0
  | d :: r => uptoBulk d + uptoBulkAll r
def uptoBulkEntries {H : Type} : List (Lit × DataW H) → Nat
  | [] => 0
  | x :: r => uptoBulkEntry x + uptoBulkEntries r
def uptoBulkEntry {H : Type} : Lit × DataW H → Nat
  | (.string bytes, d) => bytes.length + uptoBulk d + 1
  | (_, d) => uptoBulk d + 1
 end
def uptoSmall : (H : Type) → List (DataW H) → Bool := fun _ ds => decide (uptoBulkAll ds ≤ 1048576)
def OpenSpec.upto (s : _root_.Go.ChangeSpec) : _root_.Go.OpenSpec := { _root_.Go.OpenSpec.ofChange s with cond := some uptoSmall }

/-- 'peloruslaw17.TubeTells', WHERE WHAT IT READS IS OF BULK AT MOST 1048576: true; the input reads as it did. -/
def tubeTellsUptoRow : OpenClaim := { program := "ytkcaiodemoalbaa", sum := "d0a0a9195fe48e84a2d656e78cc049f3febb962dcbf88eb785955eaa8f6e96a4", func := "pelorus/peloruslaw17.TubeTells", spec := "tubeTells", unfollowed := true, recurses := true, apart := false, narrowed := true }
def TubeTellsUptoSaid : Prop := tubeTellsUptoRow.holds Try.pinned (OpenSpec.upto tubeTellsSpec)

/-- 'peloruslaw17.TubeMakes', WHERE WHAT IT READS IS OF BULK AT MOST 1048576: true; the input reads as it did. -/
def tubeMakesUptoRow : OpenClaim := { program := "ytkcaiodemoalbaa", sum := "d0a0a9195fe48e84a2d656e78cc049f3febb962dcbf88eb785955eaa8f6e96a4", func := "pelorus/peloruslaw17.TubeMakes", spec := "tubeMakes", unfollowed := true, recurses := true, apart := false, narrowed := true }
def TubeMakesUptoSaid : Prop := tubeMakesUptoRow.holds Try.pinned (OpenSpec.upto tubeMakesSpec)

/-- 'peloruslaw17.TubeMeets', WHERE WHAT IT READS IS OF BULK AT MOST 1048576: true; the input reads as it did. -/
def tubeMeetsUptoRow : OpenClaim := { program := "ytkcaiodemoalbaa", sum := "d0a0a9195fe48e84a2d656e78cc049f3febb962dcbf88eb785955eaa8f6e96a4", func := "pelorus/peloruslaw17.TubeMeets", spec := "tubeMeets", unfollowed := true, recurses := true, apart := false, narrowed := true }
def TubeMeetsUptoSaid : Prop := tubeMeetsUptoRow.holds Try.pinned (OpenSpec.upto tubeMeetsSpec)

/-- 'peloruslaw17.TubeSets', WHERE WHAT IT READS IS OF BULK AT MOST 1048576: true; the input reads as it did. -/
def tubeSetsUptoRow : OpenClaim := { program := "ytkcaiodemoalbaa", sum := "d0a0a9195fe48e84a2d656e78cc049f3febb962dcbf88eb785955eaa8f6e96a4", func := "pelorus/peloruslaw17.TubeSets", spec := "tubeSets", unfollowed := true, recurses := true, apart := false, narrowed := true }
def TubeSetsUptoSaid : Prop := tubeSetsUptoRow.holds Try.pinned (OpenSpec.upto tubeSetsSpec)

end Rows
end Go.Proofs.Ytkcaiodemoalbaa
