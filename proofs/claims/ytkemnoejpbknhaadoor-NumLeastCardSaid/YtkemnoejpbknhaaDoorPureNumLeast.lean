/- The least and the greatest of some numbers, and any whole number of 64 bits, are what the document says. -/
import Derived.Test.YtkemnoejpbknhaaDoorPAx2
import Derived.Test.YtkemnoejpbknhaaDoorTV
namespace Go.Proofs.YtkemnoejpbknhaaDoor.Pure
set_option linter.unusedVariables false
set_option linter.unusedSimpArgs false
open Go.RowKit Go.Proofs.YtkemnoejpbknhaaDoorW.PrintWords Go.Proofs.YtkemnoejpbknhaaDoorW.PrintMore Go.Proofs.YtkemnoejpbknhaaDoor.PA Go.Proofs.YtkemnoejpbknhaaDoor.T

theorem NumLeast : peloruslaw05_NumLeast.Pure := by
  intro l a hl ha
  have wa := i64_of_wf ha
  obtain ⟨K, hK⟩ := awake_ev
  obtain ⟨K2, h2⟩ := rof_ev a wa.1 wa.2
  refine ⟨K + K2 + 110, ?_, fun r hr => by rw [hK _ (by omega)] at hr; exact (Option.some.inj hr).symm⟩
  unfold peloruslaw05_NumLeast.f
  rw [hK _ (by omega), Option.bind_some]
  by_cases hn : (l.length : Int) > 100
  · rw [if_pos hn]
  · rw [if_neg hn, if_pos rfl, least_ev l (by omega) hl.2.2 _ (by omega), Option.bind_some, rleast_ev l (by omega) hl.2.2 _ (by omega), Option.bind_some, nm_beq rfl, if_pos rfl, most_ev l (by omega) hl.2.2 _ (by omega), Option.bind_some, rmost_ev l (by omega) hl.2.2 _ (by omega), Option.bind_some, nm_beq rfl, if_pos rfl,
      of_g _ (by omega) a wa.1 wa.2, Option.bind_some, h2 _ (by omega), Option.bind_some, nm_beq rfl]
end Go.Proofs.YtkemnoejpbknhaaDoor.Pure
