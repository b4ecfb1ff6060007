/- For every input the law TopReplays answers true, and each argument reads behind the call as it read before: the row, joined out of the plain statement and the functions' contracts. No condition. -/
import Derived.Test.YtliiapjinminlaaGreatRows
import Derived.Test.YtliiapjinminlaaGreatP2
namespace Go.Proofs.YtliiapjinminlaaGreat.Rf
open Go Go.Proofs Go.RowKit Go.Proofs.YtliiapjinminlaaGreat
open Go.ChangeShapes Go.WideShapes Go.ChangeAt
set_option linter.unusedVariables false
set_option linter.unusedSimpArgs false
namespace topReplays
theorem own : ownKnob Tryz.prog.godebug = none := by kernel_rfl
theorem laidOut : laidOutB Tryz.prog = true := by kernel_rfl
set_option maxRecDepth 100000 in
theorem lifted (os : Os) (started : os.Started) (H : Type) (enc : TypeId × Value → H) :
    ReturnsInHanded {} Tryz.checked os 3 .any (Rows.topReplaysSpec.pre6 enc Tryz.prog Tryz.f3 Rows.topReplaysRow.domain false) (Rows.topReplaysSpec.post enc Tryz.prog Tryz.f3 false true false false) := by
  refine returnsInHanded_of_change_sized (C := Tryz.checked) own started (by kernel_rfl) Tryz.func3
    (ChangeSpec.witness6 (enc := enc) (C := Tryz.checked) false ⟨#[], #[.slice none 0 0], []⟩ 12 (by kernel_rfl) (by kernel_rfl) (by kernel_rfl) (by kernel_rfl)) ?_
  intro W base args ds gs before hval hW hcnd hsz _
  have hW' := hW
  obtain ⟨p, q, hA, hV, rfl, hfz, hnd⟩ := hW
  obtain ⟨rfl, rfl⟩ := trodVars_none hV
  obtain ⟨xs, hx, hok⟩ := plain_args (k := 12) Tryz.f3.params.toList [T22] args.toList ds p (by kernel_rfl) (fun j t v ht hv => hval j t v (by simpa using ht) (by simpa using hv)) hA
  obtain ⟨d0, rfl⟩ : ∃ d0, ds = [d0] := by
    have hA2 := hA
    rw [Tryz.params3] at hA2
    obtain ⟨_, _, d0, _, _, _, _, rfl, rfl, _, r0⟩ := trodAll_cons hA2
    obtain ⟨_, rfl, _⟩ := trodAll_nil r0
    exact ⟨_, rfl⟩
  obtain ⟨k, h⟩ : ∃ k, pelorustop_TopReplays k (xs.1) = some (true, ()) := Pl.TopReplays xs.1 (Pl.okOs hok.1)
  refine (show Calls Tryz.prog 3 args W _ from (law_calls (F := fun k (x : HL [T22]) => pelorustop_TopReplays k x.1) (pelorustop_TopReplays.ok k) hx h)).mono fun e W' ⟨he, bel⟩ => ?_
  subst he
  exact ⟨_, rfl, _, _, _, [], _, [], hW', trodAll_mk1 (shut_bool Tryz.underlying4 _), trodAll_below laidOut bel _ _ _ _ (by kernel_rfl) hA, rfl, bel.frame _, fun h => by cases h⟩
theorem over : Rows.topReplaysRow.holds Tryz.pinned (OpenSpec.ofChange Rows.topReplaysSpec) :=
  OpenClaim.holds_of_wide 3 Tryz.f3 rfl rfl rfl rfl rfl rfl rfl ⟨rfl, rfl, rfl, rfl, rfl⟩ rfl rfl rfl rfl rfl (by kernel_rfl) Tryz.func3 (by kernel_rfl)
    (of_decide_eq_true (by kernel_rfl)) (by unfold Func.isWrapper; first | (rw [if_pos (by decide +kernel)]; kernel_rfl) | (rw [if_neg (by decide +kernel)]; exact ⟨rfl, rfl⟩))
    (fun os started H enc _ => lifted os started H enc)
end topReplays
end Go.Proofs.YtliiapjinminlaaGreat.Rf
namespace Go.Proofs.YtliiapjinminlaaGreat
/-- The row, under a short name, for the claim. -/
theorem topReplays_holds : Rows.TopReplaysSaid := Rf.topReplays.over
#print axioms topReplays_holds
end Go.Proofs.YtliiapjinminlaaGreat
