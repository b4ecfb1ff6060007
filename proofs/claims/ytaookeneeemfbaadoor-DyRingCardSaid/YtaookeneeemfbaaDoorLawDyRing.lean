/- For every input the law pelorus/peloruslaw03.DyRing answers true, and each argument reads behind the call as it read before: the row, joined out of the plain statement and the walk. No condition. -/
import Derived.Test.YtaookeneeemfbaaDoorRows
import Derived.Test.YtaookeneeemfbaaDoorPureDyRing
import Derived.Test.YtaookeneeemfbaaDoorKA
import Derived.Test.YtaookeneeemfbaaDoorCards
import Derived.Test.YtaookeneeemfbaaDoorTie
import Derived.Test.YtaookeneeemfbaaDoorTB
import Derived.WalkKit
import Derived.ProofKit
import Derived.OpenShut
import Derived.ShutString
import Derived.ChangeOld
import Derived.Below
import Derived.SizedLaws
import Derived.Carry
import Derived.LaidMore
import Derived.Handed
import Derived.Stop.Joined
import Derived.SevenTiedAt
namespace Go.Proofs.YtaookeneeemfbaaDoor.dyRing
open Go.ChangeShapes Go.WideShapes Go.ChangeAt Go.RowKit Go.Proofs.YtaookeneeemfbaaDoor.PA Go.Proofs.YtaookeneeemfbaaDoor.TK
open Go.Proofs.YtaookeneeemfbaaDoorW.PrintWords
open Go.ChangeMaps (open_string shut_string)
set_option linter.unusedVariables false
theorem own : ownKnob Tryd.prog.godebug = none := by kernel_rfl
theorem laidOut : laidOutB Tryd.prog = true := by kernel_rfl
set_option maxRecDepth 100000 in
theorem lifted (os : Os) (started : os.Started) (H : Type) (enc : TypeId × Value → H) :
    ReturnsInHanded {} Tryd.checked os 7 .any (fun w args => (Rows.dyRingSpec.pre enc Tryd.prog Tryd.f7 [] false w args ∧ laidMetH Tryd.prog laid1 w) ∧ sizedMet enc Tryd.prog Tryd.f7 (OpenSpec.ofChange Rows.dyRingSpec) false w args) (Rows.dyRingSpec.post enc Tryd.prog Tryd.f7 false true false false) := by
  refine returnsInHanded_of_change_and (C := Tryd.checked) (X := fun w _ => laidMetH Tryd.prog laid1 w) (fun _ _ _ hh h => h.of_heap hh) own started (by kernel_rfl) Tryd.func7
    (ChangeSpec.witness_shaped (enc := enc) (C := Tryd.checked) (os := os) (X := fun w _ => laidMetH Tryd.prog laid1 w) false (World.doorLaid Tryd.prog 400 os) #[.agg #[.bool false, .slice none 0 0, .int .i64 0], .agg #[.bool false, .slice none 0 0, .int .i64 0], .agg #[.bool false, .slice none 0 0, .int .i64 0]] 8 rfl (World.shaped_of_RefB (by kernel_rfl) (by kernel_rfl)) (by kernel_rfl) (by kernel_rfl) (by kernel_rfl) (door_met os _)) ?_
  intro W base args ds gs before hval0 hW hcnd hsz0 hL _
  have hsz : (DataW.weightsEach Tryd.prog (Tryd.f7.params.toList ++ Rows.dyRingSpec.plain.varTypes Tryd.prog) (ds ++ gs)).all (· ≤ reachBytes) = true := hsz0
  have hval : ∀ (j : Nat) t v, Tryd.f7.params[j]? = some t → args[j]? = some v → Value.okWide Tryd.prog W .any base t v := hval0
  have hW' := hW
  obtain ⟨p, q, hA0, hV, rfl, hfz, hnd⟩ := hW
  have hA : DataW.TrodAll enc Tryd.prog W 0 (fun _ => true) true Tryd.f7.params.toList args.toList ds p := hA0
  rw [Tryd.params7] at hA hval hsz
  obtain ⟨v0, vs0, d0, ds0, p0, q0, hargs, rfl, rfl, h0, r0⟩ := trodAll_cons hA
  obtain ⟨v1, vs1, d1, ds1, p1, q1, rfl, rfl, rfl, h1, r1⟩ := trodAll_cons r0
  obtain ⟨v2, vs2, d2, ds2, p2, q2, rfl, rfl, rfl, h2, r2⟩ := trodAll_cons r1
  obtain ⟨rfl, rfl, rfl⟩ := trodAll_nil r2
  obtain rfl : args = #[v0, v1, v2] := by cases args; simp_all
  obtain ⟨rfl, rfl⟩ := trodVars_none hV
  have k0 := h0
  have lt0 : ∀ x ∈ p0, x.block < W.heap.size := by obtain ⟨m, hm⟩ := k0; exact DataW.trod_lt m _ _ _ hm
  obtain ⟨fuel0, hf0⟩ := h0
  obtain ⟨cs0, rfl, _⟩ := okWide_struct Tryd.underlying27 (hval 0 27 v0 rfl rfl)
  obtain ⟨x0, K0, o0⟩ := op27 _ _ _ _ _ _ hf0 (light_each hsz (j := 0) rfl rfl)
  obtain ⟨A0_1, c0_1, e0, l0_1, g0_1⟩ := k27_open K0
  obtain rfl : cs0 = #[.bool x0.f0.f0, .slice A0_1 x0.f0.f1.length c0_1, .int .i64 x0.f1] := Array.toList_inj.1 e0
  have k1 := h1
  have lt1 : ∀ x ∈ p1, x.block < W.heap.size := by obtain ⟨m, hm⟩ := k1; exact DataW.trod_lt m _ _ _ hm
  obtain ⟨fuel1, hf1⟩ := h1
  obtain ⟨cs1, rfl, _⟩ := okWide_struct Tryd.underlying27 (hval 1 27 v1 rfl rfl)
  obtain ⟨x1, K1, o1⟩ := op27 _ _ _ _ _ _ hf1 (light_each hsz (j := 1) rfl rfl)
  obtain ⟨A1_1, c1_1, e1, l1_1, g1_1⟩ := k27_open K1
  obtain rfl : cs1 = #[.bool x1.f0.f0, .slice A1_1 x1.f0.f1.length c1_1, .int .i64 x1.f1] := Array.toList_inj.1 e1
  have k2 := h2
  have lt2 : ∀ x ∈ p2, x.block < W.heap.size := by obtain ⟨m, hm⟩ := k2; exact DataW.trod_lt m _ _ _ hm
  obtain ⟨fuel2, hf2⟩ := h2
  obtain ⟨cs2, rfl, _⟩ := okWide_struct Tryd.underlying27 (hval 2 27 v2 rfl rfl)
  obtain ⟨x2, K2, o2⟩ := op27 _ _ _ _ _ _ hf2 (light_each hsz (j := 2) rfl rfl)
  obtain ⟨A2_1, c2_1, e2, l2_1, g2_1⟩ := k27_open K2
  obtain rfl : cs2 = #[.bool x2.f0.f0, .slice A2_1 x2.f0.f1.length c2_1, .int .i64 x2.f1] := Array.toList_inj.1 e2
  clear hA0 hval0 hsz0 hsz
  obtain ⟨k, h⟩ := Pure.DyRing x0 x1 x2 o0 o1 o2
  refine (Rf.ring_calls k x0.f0.f0 x0.f0.f1 x0.f1 x1.f0.f0 x1.f0.f1 x1.f1 x2.f0.f0 x2.f0.f1 x2.f1 _ _ _ _ _ _ W g0_1 l0_1 g1_1 l1_1 g2_1 l2_1 (fun w' hb => Kd.C_below (tab_of_laid hL) hb) h).mono fun e W' ⟨he, bel0⟩ => ?_
  have bel : Below W.heap.size W W' := bel0
  subst he
  exact ⟨_, rfl, _, _, _, [], _, [], hW', trodAll_mk1 (shut_bool Tryd.underlying4 _), (trodAll_cons_mk (Below.trod laidOut (by kernel_rfl) (of_decide_eq_true (by kernel_rfl)) k0 bel lt0) (trodAll_cons_mk (Below.trod laidOut (by kernel_rfl) (of_decide_eq_true (by kernel_rfl)) k1 bel lt1) (trodAll_cons_mk (Below.trod laidOut (by kernel_rfl) (of_decide_eq_true (by kernel_rfl)) k2 bel lt2) trodAll_mk0))), rfl, bel.frame _, fun h => by cases h⟩
theorem over : Rows.dyRingRow.holds Tryd.pinned (OpenSpec.ofChange Rows.dyRingSpec) :=
  OpenClaim.holds_of_wide 7 Tryd.f7 rfl rfl rfl rfl rfl rfl rfl ⟨rfl, rfl, rfl, rfl, rfl⟩ rfl rfl rfl rfl rfl (by kernel_rfl) Tryd.func7 (by kernel_rfl)
    (of_decide_eq_true (by kernel_rfl)) (by unfold Func.isWrapper; first | (rw [if_pos (by decide +kernel)]; kernel_rfl) | (rw [if_neg (by decide +kernel)]; exact ⟨rfl, rfl⟩))
    (fun os started H enc _ => lifted os started H enc)
theorem proved : Rows.DyRingCardSaid :=
  Claim7.holds_tied_plain_at .later [] [.data] true (true, "0b460e94ba79b7c4c123fe6ec245168e5c607cfe8cbad8220b1e5583c3adeb11") false
    over (fun _ h => by cases h) (by kernel_rfl) (fun _ h => by cases h) dyRing_row_tie rfl ⟨rfl, rfl⟩ (by kernel_rfl) rfl
    (fun f fn hf hfn => by
      obtain rfl : f = 7 := Option.some.inj ((show Tryd.prog.funcNamed "pelorus/peloruslaw03.DyRing" = some 7 by kernel_rfl).symm.trans hf) |>.symm
      obtain rfl : fn = Tryd.f7 := (Option.some.inj (Tryd.func7.symm.trans hfn)).symm
      exact ⟨by kernel_rfl, fun j t ht => by
        rw [Tryd.params7] at ht
        have hm : t ∈ [27, 27, 27] := by simpa using Array.mem_of_getElem? ht
        have hall : ([27, 27, 27].all fun u => !Tryd.prog.wantsStandIn u) = true := by kernel_rfl
        exact (show Tryd.prog.wantsStandIn t = false by simpa using List.all_eq_true.1 hall t hm)⟩)
    (by kernel_rfl)
#print axioms proved
end Go.Proofs.YtaookeneeemfbaaDoor.dyRing
namespace Go.Proofs.YtaookeneeemfbaaDoor
/-- The row, under a short name, for the claim. -/
theorem dyRing_holds : Rows.DyRingCardSaid := dyRing.proved
end Go.Proofs.YtaookeneeemfbaaDoor
