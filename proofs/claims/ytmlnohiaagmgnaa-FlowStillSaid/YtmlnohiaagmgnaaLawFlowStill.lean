/- For every input the law FlowStill answers true, and each argument reads behind the call as it read before: the row, joined out of the plain statement and the functions' contracts. No condition. -/
import Derived.Test.YtmlnohiaagmgnaaRows
import Derived.Test.YtmlnohiaagmgnaaP4
namespace Go.Proofs.Ytmlnohiaagmgnaa.Rf
open Go Go.Proofs Go.RowKit Go.Proofs.Ytmlnohiaagmgnaa
open Go.ChangeShapes Go.WideShapes Go.ChangeAt
set_option linter.unusedVariables false
set_option linter.unusedSimpArgs false
namespace flowStill
theorem own : ownKnob Try.prog.godebug = none := by kernel_rfl
theorem laidOut : laidOutB Try.prog = true := by kernel_rfl
set_option maxRecDepth 100000 in
theorem lifted (os : Os) (started : os.Started) (H : Type) (enc : TypeId × Value → H) :
    ReturnsInHanded {} Try.checked os 3 .any (Rows.flowStillSpec.pre6 enc Try.prog Try.f3 Rows.flowStillRow.domain false) (Rows.flowStillSpec.post enc Try.prog Try.f3 false true false false) := by
  refine returnsInHanded_of_change_sized (C := Try.checked) own started (by kernel_rfl) Try.func3
    (ChangeSpec.witness6 (enc := enc) (C := Try.checked) false ⟨#[], #[.agg #[.int .i64 0, .bool false, .int .u64 0, .int .i64 0, .bool false, .int .i64 0, .bool false, .int .u64 0, .int .i64 0, .int .i64 0, .bool false, .int .u64 0, .int .i64 0, .slice none 0 0]], []⟩ 12 (by kernel_rfl) (by kernel_rfl) (by kernel_rfl) (by kernel_rfl)) ?_
  intro W base args ds gs before hval hW hcnd hsz _
  have hW' := hW
  obtain ⟨p, q, hA, hV, rfl, hfz, hnd⟩ := hW
  obtain ⟨rfl, rfl⟩ := trodVars_none hV
  obtain ⟨xs, hx, hok⟩ := plain_args (k := 12) Try.f3.params.toList [T28] args.toList ds p (by kernel_rfl) (fun j t v ht hv => hval j t v (by simpa using ht) (by simpa using hv)) hA
  obtain ⟨d0, rfl⟩ : ∃ d0, ds = [d0] := by
    have hA2 := hA
    rw [Try.params3] at hA2
    obtain ⟨_, _, d0, _, _, _, _, rfl, rfl, _, r0⟩ := trodAll_cons hA2
    obtain ⟨_, rfl, _⟩ := trodAll_nil r0
    exact ⟨_, rfl⟩
  obtain ⟨k, h⟩ : ∃ k, peloruslaw18_FlowStill k (xs.1) = some (true, ()) := Pl.FlowStill xs.1 (Pl.okT hok.1)
  refine (show Calls Try.prog 3 args W _ from (law_calls (F := fun k (x : HL [T28]) => peloruslaw18_FlowStill k x.1) (peloruslaw18_FlowStill.ok k) hx h)).mono fun e W' ⟨he, bel⟩ => ?_
  subst he
  exact ⟨_, rfl, _, _, _, [], _, [], hW', trodAll_mk1 (shut_bool Try.underlying4 _), trodAll_below laidOut bel _ _ _ _ (by kernel_rfl) hA, rfl, bel.frame _, fun h => by cases h⟩
theorem over : Rows.flowStillRow.holds Try.pinned (OpenSpec.ofChange Rows.flowStillSpec) :=
  OpenClaim.holds_of_wide 3 Try.f3 rfl rfl rfl rfl rfl rfl rfl ⟨rfl, rfl, rfl, rfl, rfl⟩ rfl rfl rfl rfl rfl (by kernel_rfl) Try.func3 (by kernel_rfl)
    (of_decide_eq_true (by kernel_rfl)) (by unfold Func.isWrapper; first | (rw [if_pos (by decide +kernel)]; kernel_rfl) | (rw [if_neg (by decide +kernel)]; exact ⟨rfl, rfl⟩))
    (fun os started H enc _ => lifted os started H enc)
end flowStill
end Go.Proofs.Ytmlnohiaagmgnaa.Rf
namespace Go.Proofs.Ytmlnohiaagmgnaa
/-- The row, under a short name, for the claim. -/
theorem flowStill_holds : Rows.FlowStillSaid := Rf.flowStill.over
#print axioms flowStill_holds
end Go.Proofs.Ytmlnohiaagmgnaa
