/- Any number of layer 3, rounded up or down, is what the document says, and may be. -/
import Derived.Test.YtkemnoejpbknhaaDoorPAx2
import Derived.Test.YtkemnoejpbknhaaDoorTV
namespace Go.Proofs.YtkemnoejpbknhaaDoor.Pure
set_option linter.unusedVariables false
set_option linter.unusedSimpArgs false
open Go.RowKit Go.Proofs.YtkemnoejpbknhaaDoorW.PrintWords Go.Proofs.YtkemnoejpbknhaaDoorW.PrintMore Go.Proofs.YtkemnoejpbknhaaDoor.PA Go.Proofs.YtkemnoejpbknhaaDoor.T

theorem bl_len {l : List Int} (h : U l) : bl (val l) ≤ ((32 * l.length : Nat) : Int) := by
  refine bl_le ?_
  have := val_lt h
  rw [p2_limb] at this
  exact Int.lt_of_lt_of_le this (p2_mono (by omega))
theorem NumRounds : peloruslaw05_NumRounds.Pure := by
  intro x up hx
  obtain ⟨K, hK⟩ := awake_ev
  have hU : U x.f0.f1 := U_of_wf hx.1.2.2.2
  by_cases hn : (x.f0.f1.length : Int) > 20
  · refine ⟨K + 1, ?_, fun r hr => by rw [hK _ (by omega)] at hr; exact (Option.some.inj hr).symm⟩
    unfold peloruslaw05_NumRounds.f
    rw [hK _ (by omega), Option.bind_some, if_pos rfl, decide_eq_true hn]
    simp [peloruslaw05_NumRounds.j0]
  · obtain ⟨d, hd⟩ := Dv.ex (sg x.f0.f0 (val x.f0.f1)) x.f1
    have hb := bl_len hU
    obtain ⟨K1, h1⟩ := nround_ev x.f0.f0 x.f0.f1 x.f1 hU (by omega) hd up
    obtain ⟨K2, h2⟩ := rround_ev x.f0.f0 x.f0.f1 x.f1 hU (by omega) (by omega) hd up
    refine ⟨K + K1 + K2 + 1, ?_, fun r hr => by rw [hK _ (by omega)] at hr; exact (Option.some.inj hr).symm⟩
    unfold peloruslaw05_NumRounds.f
    rw [hK _ (by omega), Option.bind_some, if_pos rfl, decide_eq_false hn]
    simp only [peloruslaw05_NumRounds.j0]
    rw [if_neg (by decide), h1 _ (by omega), Option.bind_some, h2 _ (by omega), Option.bind_some, nm_beq rfl, if_pos rfl, may_g (rdv_may d up)]
    rfl
end Go.Proofs.YtkemnoejpbknhaaDoor.Pure
