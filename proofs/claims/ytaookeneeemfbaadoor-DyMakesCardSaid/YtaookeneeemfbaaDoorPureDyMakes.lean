/- Any number times any power of two is what the document says, and may be; so is it moved by another power. -/
import Derived.Test.YtaookeneeemfbaaDoorPAx1
import Derived.Test.YtaookeneeemfbaaDoorTQ3
namespace Go.Proofs.YtaookeneeemfbaaDoor.Pure
set_option linter.unusedVariables false
set_option linter.unusedSimpArgs false
open Go.RowKit Go.Proofs.YtaookeneeemfbaaDoorW.PrintWords Go.Proofs.YtaookeneeemfbaaDoorW.PrintMore Go.Proofs.YtaookeneeemfbaaDoor.PA Go.Proofs.YtaookeneeemfbaaDoor.T

theorem bl_len {l : List Int} (h : U l) : bl (val l) ≤ ((32 * l.length : Nat) : Int) := by
  refine bl_le ?_
  have := val_lt h
  rw [p2_limb] at this
  exact Int.lt_of_lt_of_le this (p2_mono (by omega))
theorem ralike_ev (d : Dd) (hl : d.2.1.length ≤ 4611686018427387903) : ∃ K, ∀ k, K ≤ k → pelorusref03_Alike.f k d.1 d.2.1 d.2.2 d.1 d.2.1 d.2.2 = some true := by
  obtain ⟨K, h⟩ := alike_ev (d.1, d.2.1) hl
  refine ⟨K, fun k hk => ?_⟩
  unfold pelorusref03_Alike.f
  rw [h k hk, Option.bind_some, if_pos rfl, beq_self_eq_true]
theorem rmay3_eq (n : Bool) (l : List Int) (e : Int) (h : U l) (hb : l.length ≤ 1073741824) : pelorusref03_May.f n l e = some (mayd n l e) := by
  unfold pelorusref03_May.f mayd
  rw [rmay_eq n l hb, Option.bind_some]
  have g := U_getD h 0
  by_cases hl : l.length = 0
  · rw [if_pos (by omega), if_pos hl]
    unfold mayw
    rw [if_pos hl]
    cases n <;> simp
  · rw [if_neg (by omega), if_neg hl]
    cases mayw n l
    · simp
    · rw [if_pos rfl, if_pos (by omega), rd_eq, show (0 : Int).toNat = 0 from rfl, Int.tmod_eq_emod_of_nonneg g.1]
      by_cases h1 : l.getD 0 0 % 2 = 1
      · rw [if_pos h1, decide_eq_true h1]
        by_cases h2 : e ≥ -4194304
        · rw [if_pos h2]; simp [show -4194304 ≤ e from h2]
        · rw [if_neg h2]; simp [show ¬ -4194304 ≤ e from h2]
      · rw [if_neg h1, decide_eq_false h1]; simp
theorem DyMakes : peloruslaw03_DyMakes.Pure := by
  intro x e b hx he hb
  obtain ⟨Ka, ha⟩ := awake3_ev
  have hU : U x.f1 := U_of_wf hx.2.2.2
  by_cases hn : (x.f1.length : Int) > 20
  · refine ⟨Ka + 1, ?_, fun r hr => by rw [ha _ (by omega)] at hr; exact (Option.some.inj hr).symm⟩
    unfold peloruslaw03_DyMakes.f
    rw [ha _ (by omega), Option.bind_some, if_pos rfl, decide_eq_true hn]
    rfl
  obtain ⟨d, hd⟩ := Dv.ex (sg x.f0 (val x.f1)) e
  have hbl := bl_len hU
  have B0 := B_of x.f0 hU (show x.f1.length ≤ 20 by omega)
  have dl := hd.len B0
  have dE := hd.E
  have dbl := bl_len hd.U
  obtain ⟨K1, h1⟩ := mk_ev x.f0 x.f1 e hU (by omega) hd
  obtain ⟨K2, h2⟩ := rmk_ev x.f0 x.f1 e hU (by omega) (by omega) hd
  obtain ⟨K3, h3⟩ := ralike_ev d (by omega)
  obtain ⟨K4, h4⟩ := dfair_ev x.f0 x.f1 e hU (by omega) hd
  have m : dy_May.f d.1 d.2.1 d.2.2 = some true := by rw [dmay_eq d.1 d.2.1 d.2.2 hd.U (by omega), dv_mayd hd]
  obtain ⟨K5, h5⟩ := sign_ev d.1 d.2.1 hd.U (by omega)
  obtain ⟨K6, h6⟩ := rsign_ev d.1 d.2.1 hd.U (by omega)
  -- moved
  have mv : ∃ q : Dd, q.2.1.length ≤ 1000 ∧ (∃ K, ∀ k, K ≤ k → dy_Move.f k x.f0 x.f1 e b = some q) ∧ (∃ K, ∀ k, K ≤ k → pelorusref03_Move.f k x.f0 x.f1 e b = some q) := by
    by_cases hb1 : b > 16777216
    · refine ⟨(false, [], 0), by simp, ⟨K4, fun k hk => ?_⟩, ⟨K2, fun k hk => ?_⟩⟩
      · unfold dy_Move.f
        rw [h4 k hk, Option.bind_some, if_pos hb1]
      · unfold pelorusref03_Move.f
        rw [h2 k hk, Option.bind_some, if_pos hb1]
    by_cases hb2 : b < -16777216
    · refine ⟨(false, [], 0), by simp, ⟨K4, fun k hk => ?_⟩, ⟨K2, fun k hk => ?_⟩⟩
      · unfold dy_Move.f
        rw [h4 k hk, Option.bind_some, if_neg hb1, if_pos hb2]
      · unfold pelorusref03_Move.f
        rw [h2 k hk, Option.bind_some, if_neg hb1, if_pos hb2]
    obtain ⟨q, hq⟩ := Dv.ex (sg d.1 (val d.2.1)) (d.2.2 + b)
    have ql := hq.len (B_of d.1 hd.U dl)
    obtain ⟨K7, h7⟩ := mk_ev d.1 d.2.1 (d.2.2 + b) hd.U (by omega) hq
    obtain ⟨K8, h8⟩ := rmk_ev d.1 d.2.1 (d.2.2 + b) hd.U (by omega) (by omega) hq
    refine ⟨q, by omega, ⟨K4 + K7, fun k hk => ?_⟩, ⟨K2 + K8, fun k hk => ?_⟩⟩
    · unfold dy_Move.f
      rw [h4 k (by omega), Option.bind_some, if_neg hb1, if_neg hb2, w64 (by omega) (by omega), h7 k (by omega)]
      rfl
    · unfold pelorusref03_Move.f
      rw [h2 k (by omega), Option.bind_some, if_neg hb1, if_neg hb2, w64 (by omega) (by omega), h8 k (by omega)]
      rfl
  obtain ⟨q, ql, ⟨K7, h7⟩, K8, h8⟩ := mv
  obtain ⟨K9, h9⟩ := ralike_ev q (by omega)
  refine ⟨Ka + K1 + K2 + K3 + K4 + K5 + K6 + K7 + K8 + K9 + 1, ?_, fun r hr => by rw [ha _ (by omega)] at hr; exact (Option.some.inj hr).symm⟩
  unfold peloruslaw03_DyMakes.f
  rw [ha _ (by omega), Option.bind_some, if_pos rfl, decide_eq_false hn]
  simp only [peloruslaw03_DyMakes.j0, Bool.false_eq_true, if_false]
  rw [h1 _ (by omega), Option.bind_some, h2 _ (by omega), Option.bind_some, h3 _ (by omega), Option.bind_some, h7 _ (by omega), Option.bind_some, h8 _ (by omega), Option.bind_some, h9 _ (by omega), Option.bind_some, if_pos rfl, if_pos rfl, m, Option.bind_some, if_pos rfl,
    dmay_eq x.f0 x.f1 e hU (by omega), Option.bind_some, rmay3_eq x.f0 x.f1 e hU (by omega), Option.bind_some, if_pos (beq_self_eq_true _)]
  unfold dy_Sign.f pelorusref03_Sign.f
  rw [h4 _ (by omega), Option.bind_some, h5 _ (by omega), Option.bind_some, Option.bind_some, h2 _ (by omega), Option.bind_some, h6 _ (by omega), Option.bind_some, Option.bind_some, beq_self_eq_true]
end Go.Proofs.YtaookeneeemfbaaDoor.Pure
