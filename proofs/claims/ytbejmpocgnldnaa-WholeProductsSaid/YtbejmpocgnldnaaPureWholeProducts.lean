/- The product of any numbers, and the quotient of any two, with what is left, are what the document says. -/
import Derived.Test.YtbejmpocgnldnaaPAx1
import Derived.Test.YtbejmpocgnldnaaTJ
namespace Go.Proofs.Ytbejmpocgnldnaa.Pure
set_option linter.unusedVariables false
set_option linter.unusedSimpArgs false
open Go.RowKit Go.Proofs.Ytbejmpocgnldnaa.PA Go.Proofs.YtbejmpocgnldnaaW.PrintWords Go.Proofs.YtbejmpocgnldnaaW.PrintLast Go.Proofs.Ytbejmpocgnldnaa.T

theorem few_eq (b : Bool) (l : List Int) : peloruslaw02_Few.f b l = some (decide ((l.length : Int) ≤ 40)) := rfl
theorem B_prod (l : List S24) (hu : ∀ x ∈ l, U x.f1) (hx : ∀ x ∈ l, x.f1.length ≤ 10) : B (prodS l) (10 * l.length + 1) := by
  induction l with
  | nil => exact B_mono (B_small (s := 1) (by decide)) (by simp)
  | cons x l ih =>
    rw [prodS_cons]
    have h1 := ih (fun y hy => hu y (List.mem_cons_of_mem _ hy)) (fun y hy => hx y (List.mem_cons_of_mem _ hy))
    have h2 := B_of x.f0 (hu x List.mem_cons_self) (hx x List.mem_cons_self)
    exact B_mono (B_mul h2 h1) (by simp only [List.length_cons]; omega)
theorem divw_B (b c : Bool) {v w : Int} {L : Nat} (v0 : 0 ≤ v) (w0 : 0 < w) (hv : v < pw L) (hw : w < pw L) : B (divw b c v w).1 (L + 1) ∧ B (divw b c v w).2 (L + 1) := by
  have q0 : 0 ≤ v / w := Int.ediv_nonneg v0 (by omega)
  have r0 : 0 ≤ v % w := Int.emod_nonneg _ (by omega)
  have q1 : v / w ≤ v := Int.ediv_le_self _ v0
  have r1 : v % w < w := Int.emod_lt_of_pos _ w0
  have p := pw_pos L
  have a1 := sg_abs (b != c) q0
  have a2 := sg_abs b r0
  have a3 := sg_abs c (v := w) (by omega)
  unfold B divw
  rw [pw_succ]
  split
  · simp only; omega
  · simp only; omega
theorem prods_l0 (x y : S24) (l : List S24) (ux : U x.f1) (uy : U y.f1) (hx : (x.f1.length : Int) ≤ 40) (hy : (y.f1.length : Int) ≤ 40) (hu : ∀ x ∈ l, U x.f1) (hl : l.length ≤ 6) (d : Nat) : ∀ i : Nat, l.length - i = d → i ≤ l.length → (∀ j, j < i → (l.getD j z24).f1.length ≤ 10) →
    ∃ K, ∀ k, K ≤ k → peloruslaw02_WholeProducts.l0 k l (i : Int) x.f0 x.f1 y.f0 y.f1 = some true := by
  induction d with
  | zero =>
    intro i hd hi hf
    have hx10 : ∀ z ∈ l, z.f1.length ≤ 10 := fun z hz => by
      obtain ⟨j, hj, rfl⟩ := List.getElem_of_mem hz
      have := hf j (by omega)
      rwa [List.getD_eq_getElem?_getD, List.getElem?_eq_getElem hj] at this
    obtain ⟨K1, h1⟩ := divw_ev x.f0 y.f0 x.f1 y.f1 ux uy (by omega) (by omega)
    obtain ⟨K2, h2⟩ := rdivw_ev x.f0 y.f0 x.f1 y.f1 ux uy (by omega) (by omega)
    obtain ⟨K3, h3⟩ := mulw_ev l hu (fun z hz => by have := hx10 z hz; omega) (by omega)
    obtain ⟨K4, h4⟩ := rmulw_ev l hu (fun z hz => by have := hx10 z hz; omega) (by omega)
    have lp := B_len (B_prod l hu hx10)
    obtain ⟨K5, h5⟩ := alike_ev (nw (prodS l)) (by omega)
    -- the quotient's two
    generalize hD : (if val y.f1 = 0 then (false, ([] : List Int), false, ([] : List Int), false) else ((nw (divw x.f0 y.f0 (val x.f1) (val y.f1)).1).1, (nw (divw x.f0 y.f0 (val x.f1) (val y.f1)).1).2, (nw (divw x.f0 y.f0 (val x.f1) (val y.f1)).2).1, (nw (divw x.f0 y.f0 (val x.f1) (val y.f1)).2).2, true)) = D at h1 h2
    have lD : D.2.1.length ≤ 41 ∧ D.2.2.2.1.length ≤ 41 := by
      rw [← hD]
      by_cases z : val y.f1 = 0
      · rw [if_pos z]; simp
      · rw [if_neg z]
        have ny := val_nonneg uy
        have b := divw_B x.f0 y.f0 (L := 40) (val_nonneg ux) (show 0 < val y.f1 by omega) (Int.lt_of_lt_of_le (val_lt ux) (pw_mono (by omega))) (Int.lt_of_lt_of_le (val_lt uy) (pw_mono (by omega)))
        exact ⟨B_len b.1, B_len b.2⟩
    obtain ⟨K6, h6⟩ := alike_ev (D.1, D.2.1) (by simp only; omega)
    obtain ⟨K7, h7⟩ := alike_ev (D.2.2.1, D.2.2.2.1) (by simp only; omega)
    simp only at h6 h7
    refine ⟨K1 + K2 + K3 + K4 + K5 + K6 + K7 + 1, fun k hk => ?_⟩
    obtain ⟨k, rfl⟩ : ∃ m, k = m + 1 := ⟨k - 1, by omega⟩
    simp only [peloruslaw02_WholeProducts.l0]
    rw [if_neg (by omega), h1 k (by omega), Option.bind_some, h2 k (by omega), Option.bind_some, h6 k (by omega), Option.bind_some, h7 k (by omega), Option.bind_some, h3 k (by omega), Option.bind_some, h4 k (by omega), Option.bind_some, h5 k (by omega), Option.bind_some, if_pos rfl, if_pos rfl, if_pos rfl]
    simp
  | succ d ih =>
    intro i hd hi hf
    have hlt : i < l.length := by omega
    by_cases h10 : ((rd_T24 l (i : Int)).f1.length : Int) > 10
    · refine ⟨1, fun k hk => ?_⟩
      obtain ⟨k, rfl⟩ : ∃ m, k = m + 1 := ⟨k - 1, by omega⟩
      simp only [peloruslaw02_WholeProducts.l0]
      rw [if_pos (by omega), if_pos (by omega), if_pos h10]
    · obtain ⟨K, h⟩ := ih (i + 1) (by omega) (by omega) (fun j hj => by
        by_cases z : j = i
        · rw [z, ← rd_at]; omega
        · exact hf j (by omega))
      refine ⟨K + 1, fun k hk => ?_⟩
      obtain ⟨k, rfl⟩ : ∃ m, k = m + 1 := ⟨k - 1, by omega⟩
      simp only [peloruslaw02_WholeProducts.l0]
      rw [if_pos (by omega), if_pos (by omega), if_neg h10, w64_succ (by omega), h k (by omega)]
theorem WholeProducts : peloruslaw02_WholeProducts.Pure := by
  intro x y l ox oy ol
  have ux := U_of_wf ox.2.2.2
  have uy := U_of_wf oy.2.2.2
  have hu : ∀ z ∈ l, U z.f1 := fun z hz => U_of_wf (ol.2.2 z hz).2.2.2
  obtain ⟨Ka, ha⟩ := awake_ev
  have out : ∀ k, peloruslaw02_WholeProducts.j0 (k + 1) l true true x.f0 x.f1 y.f0 y.f1 = some true := fun _ => rfl
  by_cases hx : (x.f1.length : Int) ≤ 40
  rotate_left
  · refine ⟨Ka + 1, ?_, fun r h => by rw [ha _ (by omega)] at h; exact (Option.some.inj h).symm⟩
    unfold peloruslaw02_WholeProducts.f
    rw [ha _ (by omega), Option.bind_some, few_eq, Option.bind_some, few_eq, Option.bind_some, if_pos rfl, decide_eq_false hx]
    exact out Ka
  by_cases hy : (y.f1.length : Int) ≤ 40
  rotate_left
  · refine ⟨Ka + 1, ?_, fun r h => by rw [ha _ (by omega)] at h; exact (Option.some.inj h).symm⟩
    unfold peloruslaw02_WholeProducts.f
    rw [ha _ (by omega), Option.bind_some, few_eq, Option.bind_some, few_eq, Option.bind_some, if_pos rfl, decide_eq_true hx, if_pos rfl, decide_eq_false hy]
    exact out Ka
  by_cases hl : (l.length : Int) > 6
  · refine ⟨Ka + 1, ?_, fun r h => by rw [ha _ (by omega)] at h; exact (Option.some.inj h).symm⟩
    unfold peloruslaw02_WholeProducts.f
    rw [ha _ (by omega), Option.bind_some, few_eq, Option.bind_some, few_eq, Option.bind_some, if_pos rfl, decide_eq_true hx, if_pos rfl, decide_eq_true hy, if_pos rfl, decide_eq_true hl]
    exact out Ka
  obtain ⟨K, h⟩ := prods_l0 x y l ux uy hx hy hu (by omega) l.length 0 (by omega) (by omega) (fun j hj => absurd hj (by omega))
  refine ⟨Ka + K + 1, ?_, fun r h => by rw [ha _ (by omega)] at h; exact (Option.some.inj h).symm⟩
  unfold peloruslaw02_WholeProducts.f
  rw [ha _ (by omega), Option.bind_some, few_eq, Option.bind_some, few_eq, Option.bind_some, if_pos rfl, decide_eq_true hx, if_pos rfl, decide_eq_true hy, if_pos rfl, decide_eq_false hl]
  simp only [peloruslaw02_WholeProducts.j0, Bool.false_eq_true, if_false]
  exact h _ (by omega)
end Go.Proofs.Ytbejmpocgnldnaa.Pure
