/- What the document's answers for layer 1 are (pelorusref01), in terms of values and limbs. -/
import Derived.Test.YtbejmpocgnldnaaPZx1
import Derived.Test.YtbejmpocgnldnaaT6
namespace Go.Proofs.Ytbejmpocgnldnaa.T
set_option linter.unusedVariables false
set_option linter.unusedSimpArgs false
open Go.RowKit Go.Proofs.YtbejmpocgnldnaaW.PrintWords Go.Proofs.YtbejmpocgnldnaaW.PrintMore Go.Proofs.Ytbejmpocgnldnaa.PZ

theorem snoc_val (l : List Int) (x : Int) : val (l ++ [x]) = val l + pw l.length * x := by rw [val_append]; simp
theorem U_snoc {l : List Int} (h : U l) {x : Int} (h0 : 0 ≤ x) (h1 : x < 4294967296) : U (l ++ [x]) := U_append.2 ⟨h, U_single h0 h1⟩
end Go.Proofs.Ytbejmpocgnldnaa.T
