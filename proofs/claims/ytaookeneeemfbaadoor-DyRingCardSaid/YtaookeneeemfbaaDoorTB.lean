import Derived.Test.YtaookeneeemfbaaDoorRows
import Derived.Test.YtaookeneeemfbaaDoorPAx1
import Derived.LaidMore
import Derived.OpenShut
import Derived.Lib.LaidTab
import Derived.Stop.Joined
import Derived.ProofKit
namespace Go.Proofs.YtaookeneeemfbaaDoor.PA
open Go.RowKit Go.Proofs.YtaookeneeemfbaaDoorW.PrintWords
set_option linter.unusedVariables false
set_option maxRecDepth 100000
def laid1 : List (String × DataW Unit) := [("math/bits.deBruijn32tab", Rows.laid_math_bits_deBruijn32tab)]
/-- The door's own heap meets the condition: three closed facts. -/
theorem door_met (os : Os) (args : Array Value) : laidMetH Tryd.prog laid1 ((World.doorLaid Tryd.prog 400 os).forCall (fun _ _ => 0) ⟨#[], args, []⟩).memory :=
  laidMetH_of_parts3 (fuel := 8) (laidMet_of_run' 8 (by kernel_rfl) (by kernel_rfl)) (by kernel_rfl) (by kernel_rfl)
theorem gt_ : Tryd.prog.globalNamed "math/bits.deBruijn32tab" = some 0 := by kernel_rfl
/-- What the condition gives the walks: the table's cells. -/
theorem tab_of_laid {W : World} (h : laidMetH Tryd.prog laid1 W) : Kd.C (Kd.int .u8) W (some ⟨0, 0, none⟩) 32 tz32tab := by
  rw [MakeChecks.laidMetH_plain _ _ _ (by kernel_rfl)] at h
  have T := Lib.tabIs_of_head (k := .u8) (zs := tz32tab) (rest := []) (g := 0) (t := 77) (e := 5) (n := 32) gt_ (by kernel_rfl) (by kernel_rfl) (by kernel_rfl) (by kernel_rfl) (by kernel_rfl) h
  refine ⟨rfl, by decide, fun _ => ⟨_, rfl, fun j p hj => ⟨[.int .u8 p], rfl, rfl, fun i u hu => ?_⟩⟩⟩
  have hj' : j < tz32tab.length := by by_cases hz : j < tz32tab.length; exact hz; rw [List.getElem?_eq_none (by omega)] at hj; exact absurd hj (by simp)
  cases i with
  | succ i => simp at hu
  | zero =>
    obtain rfl := Option.some.inj hu
    have c := Lib.TabIs.cell T gt_ j hj'
    rw [List.getD_eq_getElem?_getD, hj] at c
    by_cases hz : j = 0
    · subst hz; simpa [Addr.add, Kd.int, Kd.scalar] using c
    · simpa [Addr.add, Kd.int, Kd.scalar, hz] using c
end Go.Proofs.YtaookeneeemfbaaDoor.PA
