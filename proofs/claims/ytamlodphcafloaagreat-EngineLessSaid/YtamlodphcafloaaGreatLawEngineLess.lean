/- For every input the law EngineLess answers true, and each argument reads behind the call as it read before: the row, joined out of the plain statement and the functions' contracts. No condition. -/
import Derived.Test.YtamlodphcafloaaGreatRows
import Derived.Test.YtamlodphcafloaaGreatP2
namespace Go.Proofs.YtamlodphcafloaaGreat.Rf
open Go Go.Proofs Go.RowKit Go.Proofs.YtamlodphcafloaaGreat
open Go.ChangeShapes Go.WideShapes Go.ChangeAt
set_option linter.unusedVariables false
set_option linter.unusedSimpArgs false
namespace engineLess
theorem own : ownKnob Tryz.prog.godebug = none := by kernel_rfl
theorem laidOut : laidOutB Tryz.prog = true := by kernel_rfl
set_option maxRecDepth 100000 in
theorem lifted (os : Os) (started : os.Started) (H : Type) (enc : TypeId × Value → H) :
    ReturnsInHanded {} Tryz.checked os 6 .any (Rows.engineLessSpec.pre6 enc Tryz.prog Tryz.f6 Rows.engineLessRow.domain false) (Rows.engineLessSpec.post enc Tryz.prog Tryz.f6 false true false false) := by
  refine returnsInHanded_of_change_sized (C := Tryz.checked) own started (by kernel_rfl) Tryz.func6
    (ChangeSpec.witness6 (enc := enc) (C := Tryz.checked) false ⟨#[], #[.slice none 0 0, .agg #[.int .i64 0, .int .i64 0, .bool false, .int .u64 0, .int .i64 0, .bool false, .int .i64 0, .bool false, .int .u64 0, .int .i64 0, .int .i64 0, .bool false, .int .u64 0, .int .i64 0, .bool false, .int .i64 0, .bool false, .int .u64 0, .int .i64 0, .int .i64 0, .bool false, .int .u64 0, .int .i64 0, .bool false, .int .i64 0, .bool false, .int .u64 0, .int .i64 0, .int .i64 0, .bool false, .int .u64 0, .int .i64 0]], []⟩ 12 (by kernel_rfl) (by kernel_rfl) (by kernel_rfl) (by kernel_rfl)) ?_
  intro W base args ds gs before hval hW hcnd hsz _
  have hW' := hW
  obtain ⟨p, q, hA, hV, rfl, hfz, hnd⟩ := hW
  obtain ⟨rfl, rfl⟩ := trodVars_none hV
  obtain ⟨xs, hx, hok⟩ := plain_args (k := 12) Tryz.f6.params.toList [T22, T41] args.toList ds p (by kernel_rfl) (fun j t v ht hv => hval j t v (by simpa using ht) (by simpa using hv)) hA
  obtain ⟨d0, d1, rfl⟩ : ∃ d0 d1, ds = [d0, d1] := by
    have hA2 := hA
    rw [Tryz.params6] at hA2
    obtain ⟨_, _, d0, _, _, _, _, rfl, rfl, _, r0⟩ := trodAll_cons hA2
    obtain ⟨_, _, d1, _, _, _, _, rfl, rfl, _, r1⟩ := trodAll_cons r0
    obtain ⟨_, rfl, _⟩ := trodAll_nil r1
    exact ⟨_, _, rfl⟩
  obtain ⟨k, h⟩ : ∃ k, peloruslaw22_EngineLess k (xs.1) (xs.2.1) = some (true, ()) := Pl.EngineLess xs.1 xs.2.1 (Pl.okOs hok.1) (Pl.okO hok.2.1)
  refine (show Calls Tryz.prog 6 args W _ from (law_calls (F := fun k (x : HL [T22, T41]) => peloruslaw22_EngineLess k x.1 x.2.1) (peloruslaw22_EngineLess.ok k) hx h)).mono fun e W' ⟨he, bel⟩ => ?_
  subst he
  exact ⟨_, rfl, _, _, _, [], _, [], hW', trodAll_mk1 (shut_bool Tryz.underlying4 _), trodAll_below laidOut bel _ _ _ _ (by kernel_rfl) hA, rfl, bel.frame _, fun h => by cases h⟩
theorem over : Rows.engineLessRow.holds Tryz.pinned (OpenSpec.ofChange Rows.engineLessSpec) :=
  OpenClaim.holds_of_wide 6 Tryz.f6 rfl rfl rfl rfl rfl rfl rfl ⟨rfl, rfl, rfl, rfl, rfl⟩ rfl rfl rfl rfl rfl (by kernel_rfl) Tryz.func6 (by kernel_rfl)
    (of_decide_eq_true (by kernel_rfl)) (by unfold Func.isWrapper; first | (rw [if_pos (by decide +kernel)]; kernel_rfl) | (rw [if_neg (by decide +kernel)]; exact ⟨rfl, rfl⟩))
    (fun os started H enc _ => lifted os started H enc)
end engineLess
end Go.Proofs.YtamlodphcafloaaGreat.Rf
namespace Go.Proofs.YtamlodphcafloaaGreat
/-- The row, under a short name, for the claim. -/
theorem engineLess_holds : Rows.EngineLessSaid := Rf.engineLess.over
#print axioms engineLess_holds
end Go.Proofs.YtamlodphcafloaaGreat
