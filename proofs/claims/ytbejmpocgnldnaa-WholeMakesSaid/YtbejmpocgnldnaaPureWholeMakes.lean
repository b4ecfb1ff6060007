/- Any sign and limbs are the number, any number of 64 bits is it, and back, as the document says; what is made may be. -/
import Derived.Test.YtbejmpocgnldnaaPAx1
import Derived.Test.YtbejmpocgnldnaaTJ
namespace Go.Proofs.Ytbejmpocgnldnaa.Pure
set_option linter.unusedVariables false
set_option linter.unusedSimpArgs false
open Go.RowKit Go.Proofs.Ytbejmpocgnldnaa.PA Go.Proofs.YtbejmpocgnldnaaW.PrintWords Go.Proofs.YtbejmpocgnldnaaW.PrintLast Go.Proofs.Ytbejmpocgnldnaa.T

theorem WholeMakes : peloruslaw02_WholeMakes.Pure := by
  intro b l n hl hn
  obtain ⟨n0, n1⟩ := i64_of_wf hn
  have u := U_of_wf hl.2.2
  obtain ⟨Ka, ha⟩ := awake_ev
  by_cases h40 : l.length > 40
  · refine ⟨Ka + 1, ?_, fun r h => by rw [ha _ (by omega)] at h; exact (Option.some.inj h).symm⟩
    unfold peloruslaw02_WholeMakes.f
    rw [ha _ (by omega), Option.bind_some, if_pos rfl, decide_eq_true (by omega)]
    rfl
  obtain ⟨K1, h1⟩ := make_ev b l u (by omega)
  obtain ⟨K2, h2⟩ := int_ev b l u (by omega)
  obtain ⟨K3, h3⟩ := rint_ev b l u (by omega)
  obtain ⟨K4, h4⟩ := from_ev n n0 n1
  have Bn : B n 2 := by unfold B; rw [show pw 2 = 18446744073709551616 by decide]; omega
  have ln := B_len Bn
  obtain ⟨K5, h5⟩ := int_ev (nw n).1 (nw n).2 (nw_U n) (by omega)
  rw [nw_sg] at h5
  have en : intv n = (n, true) := by unfold intv; rw [if_pos (by omega)]
  rw [en] at h5
  obtain ⟨K6, h6⟩ := rmake_ev b l u (by omega)
  have lb := B_len (B_of b u (Nat.le_refl _))
  obtain ⟨K7, h7⟩ := alike_ev (nw (sg b (val l))) (by omega)
  obtain ⟨K8, h8⟩ := rfrom_ev n n0 n1
  obtain ⟨K9, h9⟩ := alike_ev (nw n) (by omega)
  refine ⟨Ka + K1 + K2 + K3 + K4 + K5 + K6 + K7 + K8 + K9 + 1, ?_, fun r h => by rw [ha _ (by omega)] at h; exact (Option.some.inj h).symm⟩
  unfold peloruslaw02_WholeMakes.f
  rw [ha _ (by omega), Option.bind_some, if_pos rfl, decide_eq_false (by omega)]
  simp only [peloruslaw02_WholeMakes.j0, Bool.false_eq_true, if_false]
  rw [h1 _ (by omega), Option.bind_some, h2 _ (by omega), Option.bind_some, h3 _ (by omega), Option.bind_some, h4 _ (by omega), Option.bind_some, h5 _ (by omega), Option.bind_some, h6 _ (by omega), Option.bind_some, h7 _ (by omega), Option.bind_some, Option.bind_some, h8 _ (by omega), Option.bind_some, h9 _ (by omega), Option.bind_some, if_pos rfl, if_pos rfl, if_pos rfl, if_pos (by simp), if_pos rfl, if_pos rfl, may_eq _ _ (by omega), Option.bind_some, mayw_nw, if_pos rfl, may_eq _ _ (by omega), Option.bind_some, rmay_eq _ _ (by omega), Option.bind_some]
  simp
end Go.Proofs.Ytbejmpocgnldnaa.Pure
