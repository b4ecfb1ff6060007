/- For every input the law pelorus/peloruslaw02.WholeRing answers true, and each argument reads behind the call as it read before: the row, joined out of the plain statement and the walk. No condition. -/
import Derived.Test.YtbejmpocgnldnaaRows
import Derived.Test.YtbejmpocgnldnaaPureWholeRing
import Derived.Test.YtbejmpocgnldnaaKZ
import Derived.WalkKit
import Derived.ProofKit
import Derived.OpenShut
import Derived.ShutString
import Derived.ChangeOld
import Derived.Below
import Derived.SizedLaws
import Derived.Carry
namespace Go.Proofs.Ytbejmpocgnldnaa.wholeRing
open Go.ChangeShapes Go.WideShapes Go.ChangeAt Go.RowKit Go.Proofs.Ytbejmpocgnldnaa.PZ Go.Proofs.Ytbejmpocgnldnaa.TK
open Go.Proofs.YtbejmpocgnldnaaW.PrintWords
open Go.ChangeMaps (open_string shut_string)
set_option linter.unusedVariables false
theorem own : ownKnob Try.prog.godebug = none := by kernel_rfl
theorem laidOut : laidOutB Try.prog = true := by kernel_rfl
set_option maxRecDepth 100000 in
theorem lifted (os : Os) (started : os.Started) (H : Type) (enc : TypeId × Value → H) :
    ReturnsInHanded {} Try.checked os 8 .any (Rows.wholeRingSpec.pre6 enc Try.prog Try.f8 Rows.wholeRingRow.domain false) (Rows.wholeRingSpec.post enc Try.prog Try.f8 false true false false) := by
  refine returnsInHanded_of_change_sized (C := Try.checked) own started (by kernel_rfl) Try.func8
    (ChangeSpec.witness6 (enc := enc) (C := Try.checked) false ⟨#[], #[.agg #[.bool false, .slice none 0 0], .agg #[.bool false, .slice none 0 0], .agg #[.bool false, .slice none 0 0]], []⟩ 8 (by kernel_rfl) (by kernel_rfl) (by kernel_rfl) (by kernel_rfl)) ?_
  intro W base args ds gs before hval0 hW hcnd hsz0 _
  have hsz : (DataW.weightsEach Try.prog (Try.f8.params.toList ++ Rows.wholeRingSpec.plain.varTypes Try.prog) (ds ++ gs)).all (· ≤ reachBytes) = true := hsz0
  have hval : ∀ (j : Nat) t v, Try.f8.params[j]? = some t → args[j]? = some v → Value.okWide Try.prog W .any base t v := hval0
  have hW' := hW
  obtain ⟨p, q, hA0, hV, rfl, hfz, hnd⟩ := hW
  have hA : DataW.TrodAll enc Try.prog W 0 (fun _ => true) true Try.f8.params.toList args.toList ds p := hA0
  rw [Try.params8] at hA hval hsz
  obtain ⟨v0, vs0, d0, ds0, p0, q0, hargs, rfl, rfl, h0, r0⟩ := trodAll_cons hA
  obtain ⟨v1, vs1, d1, ds1, p1, q1, rfl, rfl, rfl, h1, r1⟩ := trodAll_cons r0
  obtain ⟨v2, vs2, d2, ds2, p2, q2, rfl, rfl, rfl, h2, r2⟩ := trodAll_cons r1
  obtain ⟨rfl, rfl, rfl⟩ := trodAll_nil r2
  obtain rfl : args = #[v0, v1, v2] := by cases args; simp_all
  obtain ⟨rfl, rfl⟩ := trodVars_none hV
  have k0 := h0
  have lt0 : ∀ x ∈ p0, x.block < W.heap.size := by obtain ⟨m, hm⟩ := k0; exact DataW.trod_lt m _ _ _ hm
  obtain ⟨fuel0, hf0⟩ := h0
  obtain ⟨cs0, rfl, _⟩ := okWide_struct Try.underlying24 (hval 0 24 v0 rfl rfl)
  obtain ⟨x0, K0, o0⟩ := op24 _ _ _ _ _ _ hf0 (light_each hsz (j := 0) rfl rfl)
  obtain ⟨A0_1, c0_1, e0, l0_1, g0_1⟩ := k24_open K0
  obtain rfl : cs0 = #[.bool x0.f0, .slice A0_1 x0.f1.length c0_1] := Array.toList_inj.1 e0
  have k1 := h1
  have lt1 : ∀ x ∈ p1, x.block < W.heap.size := by obtain ⟨m, hm⟩ := k1; exact DataW.trod_lt m _ _ _ hm
  obtain ⟨fuel1, hf1⟩ := h1
  obtain ⟨cs1, rfl, _⟩ := okWide_struct Try.underlying24 (hval 1 24 v1 rfl rfl)
  obtain ⟨x1, K1, o1⟩ := op24 _ _ _ _ _ _ hf1 (light_each hsz (j := 1) rfl rfl)
  obtain ⟨A1_1, c1_1, e1, l1_1, g1_1⟩ := k24_open K1
  obtain rfl : cs1 = #[.bool x1.f0, .slice A1_1 x1.f1.length c1_1] := Array.toList_inj.1 e1
  have k2 := h2
  have lt2 : ∀ x ∈ p2, x.block < W.heap.size := by obtain ⟨m, hm⟩ := k2; exact DataW.trod_lt m _ _ _ hm
  obtain ⟨fuel2, hf2⟩ := h2
  obtain ⟨cs2, rfl, _⟩ := okWide_struct Try.underlying24 (hval 2 24 v2 rfl rfl)
  obtain ⟨x2, K2, o2⟩ := op24 _ _ _ _ _ _ hf2 (light_each hsz (j := 2) rfl rfl)
  obtain ⟨A2_1, c2_1, e2, l2_1, g2_1⟩ := k24_open K2
  obtain rfl : cs2 = #[.bool x2.f0, .slice A2_1 x2.f1.length c2_1] := Array.toList_inj.1 e2
  clear hA0 hval0 hsz0 hsz
  obtain ⟨k, h⟩ := Pure.WholeRing x0 x1 x2 o0 o1 o2
  refine (Rf.ring_calls k x0.f0 x0.f1 x1.f0 x1.f1 x2.f0 x2.f1 _ _ _ _ _ _ W g0_1 l0_1 g1_1 l1_1 g2_1 l2_1 h).mono fun e W' ⟨he, bel0⟩ => ?_
  have bel : Below W.heap.size W W' := bel0
  subst he
  exact ⟨_, rfl, _, _, _, [], _, [], hW', trodAll_mk1 (shut_bool Try.underlying4 _), (trodAll_cons_mk (Below.trod laidOut (by kernel_rfl) (of_decide_eq_true (by kernel_rfl)) k0 bel lt0) (trodAll_cons_mk (Below.trod laidOut (by kernel_rfl) (of_decide_eq_true (by kernel_rfl)) k1 bel lt1) (trodAll_cons_mk (Below.trod laidOut (by kernel_rfl) (of_decide_eq_true (by kernel_rfl)) k2 bel lt2) trodAll_mk0))), rfl, bel.frame _, fun h => by cases h⟩
theorem over : Rows.wholeRingRow.holds Try.pinned (OpenSpec.ofChange Rows.wholeRingSpec) :=
  OpenClaim.holds_of_wide 8 Try.f8 rfl rfl rfl rfl rfl rfl rfl ⟨rfl, rfl, rfl, rfl, rfl⟩ rfl rfl rfl rfl rfl (by kernel_rfl) Try.func8 (by kernel_rfl)
    (of_decide_eq_true (by kernel_rfl)) (by unfold Func.isWrapper; first | (rw [if_pos (by decide +kernel)]; kernel_rfl) | (rw [if_neg (by decide +kernel)]; exact ⟨rfl, rfl⟩))
    (fun os started H enc _ => lifted os started H enc)
theorem proved : Rows.WholeRingSaid := over
#print axioms proved
end Go.Proofs.Ytbejmpocgnldnaa.wholeRing
namespace Go.Proofs.Ytbejmpocgnldnaa
/-- The row, under a short name, for the claim. -/
theorem wholeRing_holds : Rows.WholeRingSaid := wholeRing.proved
end Go.Proofs.Ytbejmpocgnldnaa
