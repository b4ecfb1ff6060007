/- For every input the law pelorus/peloruslaw06.ArithHolds answers true, and each argument reads behind the call as it read before: the row, joined out of the plain statement and the walk. No condition. -/
import Derived.Test.YthlhogcnfaiphaaDoorRows
import Derived.Test.YthlhogcnfaiphaaDoorPAx16
import Derived.Test.YthlhogcnfaiphaaDoorPureArithHolds
import Derived.Test.YthlhogcnfaiphaaDoorKA
import Derived.Test.YthlhogcnfaiphaaDoorCards
import Derived.Test.YthlhogcnfaiphaaDoorTie
import Derived.Test.YthlhogcnfaiphaaDoorTB
import Derived.WalkKit
import Derived.ProofKit
import Derived.OpenShut
import Derived.ShutString
import Derived.ChangeOld
import Derived.Below
import Derived.SizedLaws
import Derived.Carry
import Derived.LaidMore
import Derived.Handed
import Derived.Stop.Joined
import Derived.SevenTiedAt
namespace Go.Proofs.YthlhogcnfaiphaaDoor.arithHolds
open Go.ChangeShapes Go.WideShapes Go.ChangeAt Go.RowKit Go.Proofs.YthlhogcnfaiphaaDoor.PA Go.Proofs.YthlhogcnfaiphaaDoor.TK
open Go.Proofs.YthlhogcnfaiphaaDoorW.PrintWords
open Go.ChangeMaps (open_string shut_string)
set_option linter.unusedVariables false
theorem own : ownKnob Tryd.prog.godebug = none := by kernel_rfl
theorem laidOut : laidOutB Tryd.prog = true := by kernel_rfl
set_option maxRecDepth 100000 in
theorem lifted (os : Os) (started : os.Started) (H : Type) (enc : TypeId × Value → H) :
    ReturnsInHanded {} Tryd.checked os 3 .any (fun w args => (Rows.arithHoldsSpec.pre enc Tryd.prog Tryd.f3 [] false w args ∧ laidMetH Tryd.prog laid1 w) ∧ sizedMet enc Tryd.prog Tryd.f3 (OpenSpec.ofChange Rows.arithHoldsSpec) false w args) (Rows.arithHoldsSpec.post enc Tryd.prog Tryd.f3 false true false false) := by
  refine returnsInHanded_of_change_and (C := Tryd.checked) (X := fun w _ => laidMetH Tryd.prog laid1 w) (fun _ _ _ hh h => h.of_heap hh) own started (by kernel_rfl) Tryd.func3
    (ChangeSpec.witness_shaped (enc := enc) (C := Tryd.checked) (os := os) (X := fun w _ => laidMetH Tryd.prog laid1 w) false (World.doorLaid Tryd.prog 400 os) #[.agg #[.int .i64 0, .bool false, .int .u64 0, .int .i64 0], .agg #[.int .i64 0, .bool false, .int .u64 0, .int .i64 0]] 8 rfl (World.shaped_of_RefB (by kernel_rfl) (by kernel_rfl)) (by kernel_rfl) (by kernel_rfl) (by kernel_rfl) (door_met os _)) ?_
  intro W base args ds gs before hval0 hW hcnd hsz0 hL _
  have hsz : (DataW.weightsEach Tryd.prog (Tryd.f3.params.toList ++ Rows.arithHoldsSpec.plain.varTypes Tryd.prog) (ds ++ gs)).all (· ≤ reachBytes) = true := hsz0
  have hval : ∀ (j : Nat) t v, Tryd.f3.params[j]? = some t → args[j]? = some v → Value.okWide Tryd.prog W .any base t v := hval0
  have hW' := hW
  obtain ⟨p, q, hA0, hV, rfl, hfz, hnd⟩ := hW
  have hA : DataW.TrodAll enc Tryd.prog W 0 (fun _ => true) true Tryd.f3.params.toList args.toList ds p := hA0
  rw [Tryd.params3] at hA hval hsz
  obtain ⟨v0, vs0, d0, ds0, p0, q0, hargs, rfl, rfl, h0, r0⟩ := trodAll_cons hA
  obtain ⟨v1, vs1, d1, ds1, p1, q1, rfl, rfl, rfl, h1, r1⟩ := trodAll_cons r0
  obtain ⟨rfl, rfl, rfl⟩ := trodAll_nil r1
  obtain rfl : args = #[v0, v1] := by cases args; simp_all
  obtain ⟨rfl, rfl⟩ := trodVars_none hV
  have k0 := h0
  have lt0 : ∀ x ∈ p0, x.block < W.heap.size := by obtain ⟨m, hm⟩ := k0; exact DataW.trod_lt m _ _ _ hm
  obtain ⟨fuel0, hf0⟩ := h0
  obtain ⟨cs0, rfl, _⟩ := okWide_struct Tryd.underlying24 (hval 0 24 v0 rfl rfl)
  obtain ⟨x0, K0, o0⟩ := op24 _ _ _ _ _ _ hf0 (light_each hsz (j := 0) rfl rfl)
  have e0 := k24_open K0
  obtain rfl : cs0 = #[.int .i64 x0.f0, .bool x0.f1, .int .u64 x0.f2, .int .i64 x0.f3] := Array.toList_inj.1 e0
  have k1 := h1
  have lt1 : ∀ x ∈ p1, x.block < W.heap.size := by obtain ⟨m, hm⟩ := k1; exact DataW.trod_lt m _ _ _ hm
  obtain ⟨fuel1, hf1⟩ := h1
  obtain ⟨cs1, rfl, _⟩ := okWide_struct Tryd.underlying24 (hval 1 24 v1 rfl rfl)
  obtain ⟨x1, K1, o1⟩ := op24 _ _ _ _ _ _ hf1 (light_each hsz (j := 1) rfl rfl)
  have e1 := k24_open K1
  obtain rfl : cs1 = #[.int .i64 x1.f0, .bool x1.f1, .int .u64 x1.f2, .int .i64 x1.f3] := Array.toList_inj.1 e1
  clear hA0 hval0 hsz0 hsz
  obtain ⟨k, h, haw⟩ := Pure.ArithHolds x0 x1 o0 o1
  refine (peloruslaw06_ArithHolds.calls k x0.f0 x0.f1 x0.f2 x0.f3 x1.f0 x1.f1 x1.f2 x1.f3 true W  rfl haw h (tab_of_laid hL)).mono fun e W' ⟨he, bel0⟩ => ?_
  have bel : Below W.heap.size W W' := bel0
  subst he
  exact ⟨_, rfl, _, _, _, [], _, [], hW', trodAll_mk1 (shut_bool Tryd.underlying4 _), (trodAll_cons_mk (Below.trod laidOut (by kernel_rfl) (of_decide_eq_true (by kernel_rfl)) k0 bel lt0) (trodAll_cons_mk (Below.trod laidOut (by kernel_rfl) (of_decide_eq_true (by kernel_rfl)) k1 bel lt1) trodAll_mk0)), rfl, bel.frame _, fun h => by cases h⟩
theorem over : Rows.arithHoldsRow.holds Tryd.pinned (OpenSpec.ofChange Rows.arithHoldsSpec) :=
  OpenClaim.holds_of_wide 3 Tryd.f3 rfl rfl rfl rfl rfl rfl rfl ⟨rfl, rfl, rfl, rfl, rfl⟩ rfl rfl rfl rfl rfl (by kernel_rfl) Tryd.func3 (by kernel_rfl)
    (of_decide_eq_true (by kernel_rfl)) (by unfold Func.isWrapper; first | (rw [if_pos (by decide +kernel)]; kernel_rfl) | (rw [if_neg (by decide +kernel)]; exact ⟨rfl, rfl⟩))
    (fun os started H enc _ => lifted os started H enc)
theorem proved : Rows.ArithHoldsCardSaid :=
  Claim7.holds_tied_plain_at .later [] [.data] true (true, "a8113bf4e14dcb3cda1b666d73346985277cf3f26f0f557be0d2ed9fb3235c75") false
    over (fun _ h => by cases h) (by kernel_rfl) (fun _ h => by cases h) arithHolds_row_tie rfl ⟨rfl, rfl⟩ (by kernel_rfl) rfl
    (fun f fn hf hfn => by
      obtain rfl : f = 3 := Option.some.inj ((show Tryd.prog.funcNamed "pelorus/peloruslaw06.ArithHolds" = some 3 by kernel_rfl).symm.trans hf) |>.symm
      obtain rfl : fn = Tryd.f3 := (Option.some.inj (Tryd.func3.symm.trans hfn)).symm
      exact ⟨by kernel_rfl, fun j t ht => by
        rw [Tryd.params3] at ht
        have hm : t ∈ [24, 24] := by simpa using Array.mem_of_getElem? ht
        have hall : ([24, 24].all fun u => !Tryd.prog.wantsStandIn u) = true := by kernel_rfl
        exact (show Tryd.prog.wantsStandIn t = false by simpa using List.all_eq_true.1 hall t hm)⟩)
    (by kernel_rfl)
#print axioms proved
end Go.Proofs.YthlhogcnfaiphaaDoor.arithHolds
namespace Go.Proofs.YthlhogcnfaiphaaDoor
/-- The row, under a short name, for the claim. -/
theorem arithHolds_holds : Rows.ArithHoldsCardSaid := arithHolds.proved
end Go.Proofs.YthlhogcnfaiphaaDoor
