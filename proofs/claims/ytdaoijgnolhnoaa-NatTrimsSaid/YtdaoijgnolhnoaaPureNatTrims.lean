/- Noughts in the highest limbs change nothing: not the order, the sum, the product, the quotient, how many bits there are. -/
import Derived.Test.YtdaoijgnolhnoaaTA
namespace Go.Proofs.Ytdaoijgnolhnoaa.Pure
set_option linter.unusedVariables false
set_option linter.unusedSimpArgs false
open Go.RowKit Go.Proofs.Ytdaoijgnolhnoaa.PN Go.Proofs.YtdaoijgnolhnoaaW.PrintWords Go.Proofs.YtdaoijgnolhnoaaW.PrintLast Go.Proofs.Ytdaoijgnolhnoaa.T

theorem trims_l0 (a b : List Int) (n : Int) (ua : U a) (ub : U b) (la : a.length ≤ 20) (lb : b.length ≤ 20) (hn : n ≤ 10) (d : Nat) :
    ∀ (i : Nat) (c : List Int), (n - i).toNat = d → c.length ≤ a.length + i → (i : Int) ≤ 11 → U c → val c = val a → ∃ K, ∀ k, K ≤ k → peloruslaw01_NatTrims.l0 k a b n c (i : Int) = some true := by
  have na := val_nonneg ua
  have nb := val_nonneg ub
  induction d with
  | zero =>
    intro i c hd hl hi uc hv
    obtain ⟨K1, h1⟩ := div_ev c b uc ub (by omega) (by omega)
    obtain ⟨K2, h2⟩ := div_ev a b ua ub (by omega) (by omega)
    obtain ⟨K3, h3⟩ := cmp_ev a c ua uc (by omega) (by omega)
    obtain ⟨K4, h4⟩ := len_ev c uc (by omega)
    obtain ⟨K5, h5⟩ := len_ev a ua (by omega)
    obtain ⟨K6, h6⟩ := add_ev c b uc ub (by omega) (by omega)
    obtain ⟨K7, h7⟩ := add_ev a b ua ub (by omega) (by omega)
    have s0 : 0 ≤ val a + val b := by omega
    have ls := len_add ua ub
    obtain ⟨K8, h8⟩ := cmp_ev (lim (val a + val b)) (lim (val a + val b)) (U_lim s0) (U_lim s0) (by omega) (by omega)
    obtain ⟨K9, h9⟩ := mul_ev c b uc ub (by omega)
    obtain ⟨K10, h10⟩ := mul_ev a b ua ub (by omega)
    have m0 := Int.mul_nonneg na nb
    have lm := len_mul ua ub
    obtain ⟨K11, h11⟩ := cmp_ev (lim (val a * val b)) (lim (val a * val b)) (U_lim m0) (U_lim m0) (by omega) (by omega)
    have hq : U (if val b = 0 then ([], [], false) else (lim (val a / val b), lim (val a % val b), true)).1 ∧ (if val b = 0 then ([], [], false) else (lim (val a / val b), lim (val a % val b), true)).1.length ≤ 20 := by
      split
      · exact ⟨U_nil, by simp⟩
      · have := len_quot ua ub
        exact ⟨U_lim (Int.ediv_nonneg na nb), by show (lim (val a / val b)).length ≤ 20; omega⟩
    have hr : U (if val b = 0 then ([], [], false) else (lim (val a / val b), lim (val a % val b), true)).2.1 ∧ (if val b = 0 then ([], [], false) else (lim (val a / val b), lim (val a % val b), true)).2.1.length ≤ 20 := by
      split
      · exact ⟨U_nil, by simp⟩
      · rename_i h0
        have := len_rest ua ub h0
        exact ⟨U_lim (Int.emod_nonneg _ h0), by show (lim (val a % val b)).length ≤ 20; omega⟩
    obtain ⟨K12, h12⟩ := cmp_ev _ _ hq.1 hq.1 (by omega) (by omega)
    obtain ⟨K13, h13⟩ := cmp_ev _ _ hr.1 hr.1 (by omega) (by omega)
    obtain ⟨K14, h14⟩ := trim_ev c uc (by omega)
    obtain ⟨K15, h15⟩ := trim_ev a ua (by omega)
    rw [hv] at h1 h3 h4 h6 h9 h14
    rw [sgn_self] at h3 h8 h11 h12 h13
    refine ⟨K1 + K2 + K3 + K4 + K5 + K6 + K7 + K8 + K9 + K10 + K11 + K12 + K13 + K14 + K15 + 1, fun k hk => ?_⟩
    obtain ⟨k, rfl⟩ : ∃ m, k = m + 1 := ⟨k - 1, by omega⟩
    simp only [peloruslaw01_NatTrims.l0]
    rw [if_neg (by omega), h1 k (by omega), Option.bind_some, h2 k (by omega), Option.bind_some, h3 k (by omega), Option.bind_some, if_pos rfl, h4 k (by omega), Option.bind_some, h5 k (by omega), Option.bind_some, if_pos rfl, h6 k (by omega), Option.bind_some, h7 k (by omega), Option.bind_some, h8 k (by omega), Option.bind_some, if_pos rfl, h9 k (by omega), Option.bind_some, h10 k (by omega), Option.bind_some, h11 k (by omega), Option.bind_some, if_pos rfl, if_pos (by simp), h12 k (by omega), Option.bind_some, if_pos rfl, h13 k (by omega), Option.bind_some, if_pos rfl, h14 k (by omega), Option.bind_some, h15 k (by omega), Option.bind_some]
    simp
  | succ d ih =>
    intro i c hd hl hi uc hv
    obtain ⟨K, hK⟩ := ih (i + 1) (c ++ [0]) (by omega) (by simp; omega) (by omega) (U_append.2 ⟨uc, U_single (by omega) (by omega)⟩) (by rw [val_append]; simp [hv])
    refine ⟨K + 1, fun k hk => ?_⟩
    obtain ⟨k, rfl⟩ : ∃ m, k = m + 1 := ⟨k - 1, by omega⟩
    simp only [peloruslaw01_NatTrims.l0]
    rw [if_pos (by omega), if_pos (by omega), w64_succ (by omega)]
    exact hK k (by omega)
theorem NatTrims : peloruslaw01_NatTrims.Pure := by
  intro a b n _ _ wa _ _ wb wn
  have ua := U_of_wf wa
  have ub := U_of_wf wb
  obtain ⟨Ka, ha⟩ := awake_ev
  have hout : ∀ k, peloruslaw01_NatTrims.j0 (k + 1) a b n true true = some true := fun k => by simp [peloruslaw01_NatTrims.j0]
  by_cases g1 : a.length > 20
  · refine ⟨Ka + 1, ?_, fun r h => by rw [ha _ (by omega)] at h; exact (Option.some.inj h).symm⟩
    unfold peloruslaw01_NatTrims.f
    rw [ha _ (by omega), Option.bind_some, if_pos rfl, if_pos (by omega)]
    exact hout _
  by_cases g2 : b.length > 20
  · refine ⟨Ka + 1, ?_, fun r h => by rw [ha _ (by omega)] at h; exact (Option.some.inj h).symm⟩
    unfold peloruslaw01_NatTrims.f
    rw [ha _ (by omega), Option.bind_some, if_pos rfl, if_neg (by omega), if_pos (by omega)]
    exact hout _
  by_cases g4 : n < 0
  · refine ⟨Ka + 1, ?_, fun r h => by rw [ha _ (by omega)] at h; exact (Option.some.inj h).symm⟩
    unfold peloruslaw01_NatTrims.f
    rw [ha _ (by omega), Option.bind_some, if_pos rfl, if_neg (by omega), if_neg (by omega), if_pos g4]
    exact hout _
  by_cases g5 : n > 10
  · refine ⟨Ka + 1, ?_, fun r h => by rw [ha _ (by omega)] at h; exact (Option.some.inj h).symm⟩
    unfold peloruslaw01_NatTrims.f
    rw [ha _ (by omega), Option.bind_some, if_pos rfl, if_neg (by omega), if_neg (by omega), if_neg g4, decide_eq_true g5]
    exact hout _
  obtain ⟨K, hK⟩ := trims_l0 a b n ua ub (by omega) (by omega) (by omega) _ 0 a rfl (by omega) (by omega) ua rfl
  refine ⟨Ka + K + 1, ?_, fun r h => by rw [ha _ (by omega)] at h; exact (Option.some.inj h).symm⟩
  unfold peloruslaw01_NatTrims.f
  rw [ha _ (by omega), Option.bind_some, if_pos rfl, if_neg (by omega), if_neg (by omega), if_neg g4, decide_eq_false g5]
  simp only [peloruslaw01_NatTrims.j0, Bool.false_eq_true, if_false, List.nil_append]
  rw [if_pos (by simp; omega)]
  exact hK _ (by omega)

end Go.Proofs.Ytdaoijgnolhnoaa.Pure
