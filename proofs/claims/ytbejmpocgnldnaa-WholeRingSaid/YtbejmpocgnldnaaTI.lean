/- What the products, quotients and conversions of layer 2 compute; what wakes its statements. -/
import Derived.Test.YtbejmpocgnldnaaPZx1
import Derived.Test.YtbejmpocgnldnaaTH
namespace Go.Proofs.Ytbejmpocgnldnaa.T
set_option linter.unusedVariables false
set_option linter.unusedSimpArgs false
open Go.RowKit Go.Proofs.YtbejmpocgnldnaaW.PrintWords Go.Proofs.YtbejmpocgnldnaaW.PrintMore Go.Proofs.Ytbejmpocgnldnaa.PZ

theorem sg_mul (n n' : Bool) (v v' : Int) : sg (n != n') (v * v') = sg n v * sg n' v' := by
  unfold sg
  cases n <;> cases n' <;> simp [Int.neg_mul, Int.mul_neg]
/-- The product of many. -/
def prodS (l : List S24) : Int := l.foldr (fun x p => sg x.f0 (val x.f1) * p) 1
theorem prodS_cons (x : S24) (l : List S24) : prodS (x :: l) = sg x.f0 (val x.f1) * prodS l := rfl
theorem drop_at {l : List S24} {i : Nat} (h : i < l.length) : l.drop i = l.getD i z24 :: l.drop (i + 1) := by
  rw [List.drop_eq_getElem_cons h, List.getD_eq_getElem?_getD, List.getElem?_eq_getElem h]
  rfl
theorem mem_at {l : List S24} {i : Nat} (h : i < l.length) : l.getD i z24 ∈ l := by
  rw [List.getD_eq_getElem?_getD, List.getElem?_eq_getElem h]
  exact List.getElem_mem h
theorem rd_at (l : List S24) (i : Nat) : rd_T24 l (i : Int) = l.getD i z24 := rfl
theorem mulw_l0 (l : List S24) (hu : ∀ x ∈ l, U x.f1) (hx : ∀ x ∈ l, x.f1.length ≤ 1000) (hl : l.length ≤ 1000) (d : Nat) : ∀ (i : Nat) (n : Bool) (m : List Int), l.length - i = d → i ≤ l.length → U m → m.length ≤ 1 + 1000 * i →
    ∃ K, ∀ k, K ≤ k → whole_Mul.l0 k n m l (l.length : Int) (i : Int) = some (nw (sg n (val m) * prodS (l.drop i))) := by
  induction d with
  | zero =>
    intro i n m hd hi um hm
    obtain ⟨K, h⟩ := make_ev n m um (by omega)
    refine ⟨K + 1, fun k hk => ?_⟩
    obtain ⟨k, rfl⟩ : ∃ j, k = j + 1 := ⟨k - 1, by omega⟩
    simp only [whole_Mul.l0]
    rw [if_neg (by omega), h k (by omega), Option.bind_some, List.drop_of_length_le (by omega), show prodS [] = 1 from rfl, Int.mul_one]
  | succ d ih =>
    intro i n m hd hi um hm
    have hlt : i < l.length := by omega
    have hm1 := mem_at hlt
    have ux := hu _ hm1
    have lx := hx _ hm1
    have nm := val_nonneg um
    have nx := val_nonneg ux
    have nn := Int.mul_nonneg nm nx
    obtain ⟨K1, h1⟩ := mul_ev m (l.getD i z24).f1 um ux (by omega)
    have lp := B_len (B_mul (B_of false um (Nat.le_refl _)) (B_of false ux lx))
    have e0 : (nw (sg false (val m) * sg false (val (l.getD i z24).f1))).2 = lim (val m * val (l.getD i z24).f1) := by
      unfold nw sg
      simp only [Bool.false_eq_true, if_false]
      rw [Int.natAbs_of_nonneg nn]
    rw [e0] at lp
    have lp2 : (lim (val m * val (l.getD i z24).f1)).length ≤ 1 + 1000 * (i + 1) := Nat.le_trans lp (by clear lp e0 h1 nn nx nm; omega)
    obtain ⟨K2, h2⟩ := ih (i + 1) (n != (l.getD i z24).f0) (lim (val m * val (l.getD i z24).f1)) (by omega) (by omega) (U_lim nn) lp2
    rw [val_lim nn, sg_mul, Int.mul_assoc, ← prodS_cons, ← drop_at hlt] at h2
    refine ⟨K1 + K2 + 1, fun k hk => ?_⟩
    obtain ⟨k, rfl⟩ : ∃ j, k = j + 1 := ⟨k - 1, by omega⟩
    simp only [whole_Mul.l0, rd_at]
    rw [if_pos (by omega), if_pos (by omega), if_pos (by omega), h1 k (by omega), Option.bind_some, w64_succ (by omega), h2 k (by omega)]
theorem mulw_ev (l : List S24) (hu : ∀ x ∈ l, U x.f1) (hx : ∀ x ∈ l, x.f1.length ≤ 1000) (hl : l.length ≤ 1000) : ∃ K, ∀ k, K ≤ k → whole_Mul.f k l = some (nw (prodS l)) := by
  obtain ⟨K, h⟩ := mulw_l0 l hu hx hl l.length 0 false [1] (by omega) (by omega) (U_single (by decide) (by decide)) (by simp)
  rw [List.drop_zero, show sg false (val [1]) = 1 by simp [sg], Int.one_mul] at h
  exact ⟨K, h⟩
theorem rtwo_ev (b c : Bool) (l m : List Int) (hl : U l) (hm : U m) (bl : l.length ≤ 100000000) (bm : m.length ≤ 100000000) : ∃ K, ∀ k, K ≤ k → pelorusref02_Two.f k b l c m = some (nw (sg b (val l) * sg c (val m))) := by
  have nn := Int.mul_nonneg (val_nonneg hl) (val_nonneg hm)
  obtain ⟨K1, h1⟩ := rmul_ev l m hl hm (by omega)
  have lp := B_len (B_mul (B_of false hl (Nat.le_refl _)) (B_of false hm (Nat.le_refl _)))
  have e0 : (nw (sg false (val l) * sg false (val m))).2 = lim (val l * val m) := by
    unfold nw sg
    simp only [Bool.false_eq_true, if_false]
    rw [Int.natAbs_of_nonneg nn]
  rw [e0] at lp
  obtain ⟨K2, h2⟩ := rmake_ev (b != c) (lim (val l * val m)) (U_lim nn) (by omega)
  rw [val_lim nn, sg_mul] at h2
  refine ⟨K1 + K2, fun k hk => ?_⟩
  unfold pelorusref02_Two.f
  rw [h1 k (by omega), Option.bind_some, h2 k (by omega), Option.bind_some]
theorem rmulw_l0 (l : List S24) (hu : ∀ x ∈ l, U x.f1) (hx : ∀ x ∈ l, x.f1.length ≤ 1000) (hl : l.length ≤ 1000) (d : Nat) : ∀ (i : Nat) (s : Int), l.length - i = d → i ≤ l.length → B s (1 + 1000 * i) →
    ∃ K, ∀ k, K ≤ k → pelorusref02_Mul.l0 k l (i : Int) (nw s).1 (nw s).2 = some (nw (s * prodS (l.drop i))) := by
  induction d with
  | zero =>
    intro i s hd hi hm
    refine ⟨1, fun k hk => ?_⟩
    obtain ⟨k, rfl⟩ : ∃ j, k = j + 1 := ⟨k - 1, by omega⟩
    simp only [pelorusref02_Mul.l0]
    rw [if_neg (by omega), List.drop_of_length_le (by omega), show prodS [] = 1 from rfl, Int.mul_one]
  | succ d ih =>
    intro i s hd hi hm
    have hlt : i < l.length := by omega
    have hm1 := mem_at hlt
    have ux := hu _ hm1
    have lx := hx _ hm1
    have ls := B_len hm
    obtain ⟨K1, h1⟩ := rtwo_ev (nw s).1 (l.getD i z24).f0 (nw s).2 (l.getD i z24).f1 (nw_U s) ux (by omega) (by omega)
    rw [nw_sg] at h1
    obtain ⟨K2, h2⟩ := ih (i + 1) (s * sg (l.getD i z24).f0 (val (l.getD i z24).f1)) (by omega) (by omega) (B_mono (B_mul hm (B_of (l.getD i z24).f0 ux lx)) (by omega))
    rw [Int.mul_assoc, ← prodS_cons, ← drop_at hlt] at h2
    refine ⟨K1 + K2 + 1, fun k hk => ?_⟩
    obtain ⟨k, rfl⟩ : ∃ j, k = j + 1 := ⟨k - 1, by omega⟩
    simp only [pelorusref02_Mul.l0, rd_at]
    rw [if_pos (by omega), if_pos (by omega), h1 k (by omega), Option.bind_some, w64_succ (by omega), h2 k (by omega)]
theorem rmulw_ev (l : List S24) (hu : ∀ x ∈ l, U x.f1) (hx : ∀ x ∈ l, x.f1.length ≤ 1000) (hl : l.length ≤ 1000) : ∃ K, ∀ k, K ≤ k → pelorusref02_Mul.f k l = some (nw (prodS l)) := by
  obtain ⟨K1, h1⟩ := rfrom_ev 1 (by decide) (by decide)
  obtain ⟨K2, h2⟩ := rmulw_l0 l hu hx hl l.length 0 1 (by omega) (by omega) (by unfold B; decide)
  rw [List.drop_zero, Int.one_mul] at h2
  refine ⟨K1 + K2, fun k hk => ?_⟩
  unfold pelorusref02_Mul.f
  rw [h1 k (by omega), Option.bind_some]
  exact h2 k (by omega)
/-! quotients -/
/-- The quotient, rounded down, and what is left, of numbers with signs: s with the sign b, t. -/
def divw (b c : Bool) (v w : Int) : Int × Int :=
  if sgn (sg b (v % w)) * sgn (sg c w) < 0 then (sg (b != c) (v / w) - 1, sg b (v % w) + sg c w) else (sg (b != c) (v / w), sg b (v % w))
theorem sgn_cases (x : Int) : (x < 0 ∧ sgn x = -1) ∨ (x = 0 ∧ sgn x = 0) ∨ (0 < x ∧ sgn x = 1) := by
  unfold sgn
  by_cases h : x < 0
  · exact .inl ⟨h, if_pos h⟩
  · by_cases h2 : 0 < x
    · exact .inr (.inr ⟨h2, by rw [if_neg h, if_pos h2]⟩)
    · exact .inr (.inl ⟨by omega, by rw [if_neg h, if_neg h2]⟩)
theorem B_small {s : Int} (h : s.natAbs < 4294967296) : B s 1 := by unfold B; rw [show pw 1 = 4294967296 by decide]; omega
theorem divw_ev (b c : Bool) (l m : List Int) (hl : U l) (hm : U m) (bl : l.length ≤ 50000000) (bm : m.length ≤ 50000000) :
    ∃ K, ∀ k, K ≤ k → whole_Div.f k b l c m = some (if val m = 0 then (false, [], false, [], false) else ((nw (divw b c (val l) (val m)).1).1, (nw (divw b c (val l) (val m)).1).2, (nw (divw b c (val l) (val m)).2).1, (nw (divw b c (val l) (val m)).2).2, true)) := by
  have nl := val_nonneg hl
  have nm := val_nonneg hm
  obtain ⟨K1, h1⟩ := div_ev l m hl hm (by omega) (by omega)
  by_cases z : val m = 0
  · refine ⟨K1, fun k hk => ?_⟩
    unfold whole_Div.f
    rw [h1 k hk, Option.bind_some, if_pos z, if_pos z, if_neg (by decide)]
  rw [if_neg z] at h1
  have q0 : 0 ≤ val l / val m := Int.ediv_nonneg nl nm
  have r0 : 0 ≤ val l % val m := Int.emod_nonneg _ z
  have q1 : val l / val m ≤ val l := Int.ediv_le_self _ nl
  have r1 : val l % val m < val m := Int.emod_lt_of_pos _ (by omega)
  have ll := val_lt hl
  have lm := val_lt hm
  have Bq : B (sg (b != c) (val l / val m)) l.length := by unfold B; rw [sg_abs _ q0]; omega
  have Br : B (sg b (val l % val m)) m.length := by unfold B; rw [sg_abs _ r0]; omega
  have lq := B_len Bq
  have lr := B_len Br
  obtain ⟨K2, h2⟩ := make_ev (b != c) (lim (val l / val m)) (U_lim q0) (by have := lim_len q0 l.length (by omega); omega)
  obtain ⟨K3, h3⟩ := make_ev b (lim (val l % val m)) (U_lim r0) (by have := lim_len r0 m.length (by omega); omega)
  rw [val_lim q0] at h2
  rw [val_lim r0] at h3
  obtain ⟨K4, h4⟩ := sign_ev (nw (sg b (val l % val m))).1 (nw (sg b (val l % val m))).2 (nw_U _) (by omega)
  rw [nw_sg] at h4
  obtain ⟨K5, h5⟩ := sign_ev c m hm (by omega)
  obtain ⟨K6, h6⟩ := from_ev (-1) (by decide) (by decide)
  have l1 := B_len (B_small (s := -1) (by decide))
  obtain ⟨K7, h7⟩ := addw_ev (nw (sg (b != c) (val l / val m))).1 (nw (-1)).1 (nw (sg (b != c) (val l / val m))).2 (nw (-1)).2 (nw_U _) (nw_U _) (by omega) (by omega)
  obtain ⟨K8, h8⟩ := addw_ev (nw (sg b (val l % val m))).1 c (nw (sg b (val l % val m))).2 m (nw_U _) hm (by omega) (by omega)
  rw [nw_sg, nw_sg] at h7
  rw [nw_sg] at h8
  refine ⟨K1 + K2 + K3 + K4 + K5 + K6 + K7 + K8, fun k hk => ?_⟩
  unfold whole_Div.f divw
  rw [h1 k (by omega), Option.bind_some, if_pos rfl]
  simp only
  rw [h2 k (by omega), Option.bind_some, h3 k (by omega), Option.bind_some, h4 k (by omega), Option.bind_some, h5 k (by omega), Option.bind_some, if_neg z]
  have w : wrap64 (sgn (sg b (val l % val m)) * sgn (sg c (val m))) = sgn (sg b (val l % val m)) * sgn (sg c (val m)) := by
    rcases sgn_cases (sg b (val l % val m)) with ⟨_, e⟩ | ⟨_, e⟩ | ⟨_, e⟩ <;> rcases sgn_cases (sg c (val m)) with ⟨_, e'⟩ | ⟨_, e'⟩ | ⟨_, e'⟩ <;> rw [e, e'] <;> exact w64 (by decide) (by decide)
  rw [w]
  by_cases hc : sgn (sg b (val l % val m)) * sgn (sg c (val m)) < 0
  · rw [if_pos hc, h6 k (by omega), Option.bind_some, h7 k (by omega), Option.bind_some, h8 k (by omega), Option.bind_some]
    simp only [if_pos hc]
    rw [Int.sub_eq_add_neg]
  · rw [if_neg hc]
    simp only [if_neg hc]
theorem rdivw_ev (b c : Bool) (l m : List Int) (hl : U l) (hm : U m) (bl : l.length ≤ 50000000) (bm : m.length ≤ 50000000) :
    ∃ K, ∀ k, K ≤ k → pelorusref02_Div.f k b l c m = some (if val m = 0 then (false, [], false, [], false) else ((nw (divw b c (val l) (val m)).1).1, (nw (divw b c (val l) (val m)).1).2, (nw (divw b c (val l) (val m)).2).1, (nw (divw b c (val l) (val m)).2).2, true)) := by
  have nl := val_nonneg hl
  have nm := val_nonneg hm
  obtain ⟨K0, h0⟩ := rsign_ev c m hm (by omega)
  rw [sgn_sg c nm] at h0
  by_cases z : val m = 0
  · refine ⟨K0, fun k hk => ?_⟩
    unfold pelorusref02_Div.f
    rw [h0 k hk, Option.bind_some, if_pos z, if_pos rfl, if_pos z]
  rw [← sgn_sg c nm] at h0
  obtain ⟨K1, h1⟩ := rdiv_ev l m hl hm (by omega) (by omega)
  rw [if_neg z] at h1
  have q0 : 0 ≤ val l / val m := Int.ediv_nonneg nl nm
  have r0 : 0 ≤ val l % val m := Int.emod_nonneg _ z
  have q1 : val l / val m ≤ val l := Int.ediv_le_self _ nl
  have r1 : val l % val m < val m := Int.emod_lt_of_pos _ (by omega)
  have ll := val_lt hl
  have lm := val_lt hm
  have Bq : B (sg (b != c) (val l / val m)) l.length := by unfold B; rw [sg_abs _ q0]; omega
  have Br : B (sg b (val l % val m)) m.length := by unfold B; rw [sg_abs _ r0]; omega
  have lq := B_len Bq
  have lr := B_len Br
  obtain ⟨K2, h2⟩ := rmake_ev (b != c) (lim (val l / val m)) (U_lim q0) (by have := lim_len q0 l.length (by omega); omega)
  obtain ⟨K3, h3⟩ := rmake_ev b (lim (val l % val m)) (U_lim r0) (by have := lim_len r0 m.length (by omega); omega)
  rw [val_lim q0] at h2
  rw [val_lim r0] at h3
  obtain ⟨K4, h4⟩ := rsign_ev (nw (sg b (val l % val m))).1 (nw (sg b (val l % val m))).2 (nw_U _) (by omega)
  rw [nw_sg] at h4
  obtain ⟨K6, h6⟩ := rfrom_ev (-1) (by decide) (by decide)
  have l1 := B_len (B_small (s := -1) (by decide))
  obtain ⟨K7, h7⟩ := raddw_ev (nw (sg (b != c) (val l / val m))).1 (nw (-1)).1 (nw (sg (b != c) (val l / val m))).2 (nw (-1)).2 (nw_U _) (nw_U _) (by omega) (by omega)
  obtain ⟨K8, h8⟩ := raddw_ev (nw (sg b (val l % val m))).1 c (nw (sg b (val l % val m))).2 m (nw_U _) hm (by omega) (by omega)
  rw [nw_sg, nw_sg] at h7
  rw [nw_sg] at h8
  have ct := sgn_cases (sg c (val m))
  have nz : sg c (val m) ≠ 0 := by unfold sg; split <;> omega
  have cr := sgn_cases (sg b (val l % val m))
  refine ⟨K0 + K1 + K2 + K3 + K4 + K6 + K7 + K8, fun k hk => ?_⟩
  unfold pelorusref02_Div.f divw
  rw [h0 k (by omega), Option.bind_some, if_neg (by omega), h1 k (by omega), Option.bind_some]
  simp only
  rw [h2 k (by omega), Option.bind_some, h3 k (by omega), Option.bind_some, h4 k (by omega), Option.bind_some, if_neg z, w64 (by omega) (by omega)]
  by_cases hc : sgn (sg b (val l % val m)) * sgn (sg c (val m)) < 0
  · have hc2 : sgn (sg b (val l % val m)) = -sgn (sg c (val m)) := by
      rcases cr with ⟨_, e⟩ | ⟨_, e⟩ | ⟨_, e⟩ <;> rcases ct with ⟨_, e'⟩ | ⟨_, e'⟩ | ⟨_, e'⟩ <;> rw [e, e'] at hc <;> first | (rw [e, e']; rfl) | exact absurd hc (by decide) | omega
    rw [if_pos hc2, h6 k (by omega), Option.bind_some, h7 k (by omega), Option.bind_some, h8 k (by omega), Option.bind_some]
    simp only [if_pos hc]
    rw [Int.sub_eq_add_neg]
  · have hc2 : ¬ sgn (sg b (val l % val m)) = -sgn (sg c (val m)) := fun h => hc (by
      rcases ct with ⟨_, e'⟩ | ⟨_, e'⟩ | ⟨_, e'⟩
      · rw [h, e']; decide
      · omega
      · rw [h, e']; decide)
    rw [if_neg hc2]
    simp only [if_neg hc]
end Go.Proofs.Ytbejmpocgnldnaa.T
