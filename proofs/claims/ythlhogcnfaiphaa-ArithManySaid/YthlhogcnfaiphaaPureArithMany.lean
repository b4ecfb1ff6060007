/- The sum of many numbers, to either side, is what the document says; to above it is not less than to below. -/
import Derived.Test.YthlhogcnfaiphaaPAx2
import Derived.Test.YthlhogcnfaiphaaTO
namespace Go.Proofs.Ythlhogcnfaiphaa.Pure
set_option linter.unusedVariables false
set_option linter.unusedSimpArgs false
open Go.RowKit Go.Proofs.Ythlhogcnfaiphaa.PA Go.Proofs.YthlhogcnfaiphaaW.PrintWords Go.Proofs.YthlhogcnfaiphaaW.PrintLast Go.Proofs.Ythlhogcnfaiphaa.T

theorem sgn_le {x : Int} : sgn x ≤ 0 ↔ x ≤ 0 := by unfold sgn; split <;> (try split) <;> omega
theorem rd_at (l : List S24) (i : Nat) : rd_T24 l (i : Int) = l.getD i z24 := rfl
theorem drop_at {l : List S24} {i : Nat} (h : i < l.length) : l.drop i = l.getD i z24 :: l.drop (i + 1) := by
  rw [List.drop_eq_getElem_cons h, List.getD_eq_getElem?_getD, List.getElem?_eq_getElem h]
  rfl
theorem ok_at {l : List S24} (hl : ∀ x ∈ l, ok24 x) {i : Nat} (h : i < l.length) : ok24 (l.getD i z24) := by
  rw [List.getD_eq_getElem?_getD, List.getElem?_eq_getElem h]
  exact hl _ (List.getElem_mem h)
/-- The sum of many, from one on. -/
def sumv (up : Bool) (acc : Nm) (l : List S24) : Nm := l.foldl (fun a x => addv a (nm x) up) acc
theorem sumv_may (up : Bool) (l : List S24) : ∀ acc, mayP acc → mayP (sumv up acc l) := by
  induction l with
  | nil => exact fun _ h => h
  | cons x l ih => exact fun acc h => ih _ (addv_may up h (nm_may x))
theorem sumv_cons (up : Bool) (acc : Nm) (x : S24) (l : List S24) : sumv up acc (x :: l) = sumv up (addv acc (nm x) up) l := rfl
theorem add_ns (k : Nat) (hk : 9 ≤ k) {p : Nm} {y : S24} (up : Bool) (hp : mayP p) (hy : ok24 y) : arith_Add.f k p.1 p.2.1 p.2.2.1 p.2.2.2 y.f0 y.f1 y.f2 y.f3 up = some (addv p (nm y) up) := by
  rw [add_eq k hk _ _ _ _ _ _ _ _ _ (may_lt hp) (m_lt hy.2.2.1), tup, fairv_of hp]; rfl
theorem sum_l0 (l : List S24) (hl : ∀ x ∈ l, ok24 x) (hb : l.length ≤ 1000) (up : Bool) (d : Nat) : ∀ (i : Nat) (acc : Nm), l.length - i = d → i ≤ l.length → mayP acc → ∀ k, d + 10 ≤ k → arith_Sum.l0 k up l (l.length : Int) (i : Int) acc.1 acc.2.1 acc.2.2.1 acc.2.2.2 = some (sumv up acc (l.drop i)) := by
  induction d with
  | zero =>
    intro i acc hd hi ha k hk
    obtain ⟨k, rfl⟩ : ∃ m, k = m + 1 := ⟨k - 1, by omega⟩
    simp only [arith_Sum.l0]
    rw [if_neg (by omega), List.drop_of_length_le (by omega)]
    rfl
  | succ d ih =>
    intro i acc hd hi ha k hk
    obtain ⟨k, rfl⟩ : ∃ m, k = m + 1 := ⟨k - 1, by omega⟩
    have hlt : i < l.length := by omega
    have ho := ok_at hl hlt
    simp only [arith_Sum.l0, rd_at]
    rw [if_pos (by omega), if_pos (by omega), if_pos (by omega), add_ns k (by omega) up ha ho, Option.bind_some, w64 (by omega) (by omega), show ((i : Int) + 1) = ((i + 1 : Nat) : Int) by omega, ih (i + 1) _ (by omega) (by omega) (addv_may up ha (nm_may _)) k (by omega), drop_at hlt, sumv_cons]
/-- No exponent falls far below, or grows far above. -/
theorem rnd_E {v e X Y : Int} (hv : 0 < v) (h0 : X ≤ e + bl v - 64) (h1 : e + bl v - 64 ≤ Y) (hX : -1000000 ≤ X) (hY : Y ≤ 1000000) (neg away : Bool) : X ≤ (rnd neg v e away).2.2.2 ∧ (rnd neg v e away).2.2.2 ≤ Y + 1 := by
  unfold rnd
  split
  · rw [bnd_in (by omega) (by omega)]; simp only; omega
  · unfold grw
    split
    · split
      · rw [bnd_in (by omega) (by omega)]; simp only; omega
      · rw [bnd_in (by omega) (by omega)]; simp only; omega
    · rw [bnd_in (by omega) (by omega)]; simp only; omega
theorem addv_E {a b : Nm} {X Y : Int} (ha : mayP a) (hb : mayP b) (up : Bool) (hX : -10000 ≤ X) (hX0 : X ≤ 0) (hY0 : 0 ≤ Y) (hY : Y ≤ 10000) (ea : X ≤ a.2.2.2 ∧ a.2.2.2 ≤ Y) (eb : X ≤ b.2.2.2 ∧ b.2.2.2 ≤ Y) : X - 64 ≤ (addv a b up).2.2.2 ∧ (addv a b up).2.2.2 ≤ Y + 2 := by
  unfold addv
  split
  · simp only; omega
  split
  · omega
  split
  · omega
  rename_i n1 n2 n3
  have xa : a.1 = 1 := by rcases ha with ⟨h, _⟩ | ⟨h, _⟩ | ⟨h, _⟩ <;> omega
  have xb : b.1 = 1 := by rcases hb with ⟨h, _⟩ | ⟨h, _⟩ | ⟨h, _⟩ <;> omega
  obtain ⟨a0, a1, -, -⟩ := may_fin ha xa
  obtain ⟨b0, b1, -, -⟩ := may_fin hb xb
  unfold rnz
  split
  · simp only; omega
  rename_i hs
  have bd : ∀ (n : Bool) (m e : Int), 0 ≤ m → m < 18446744073709551616 → min a.2.2.2 b.2.2.2 ≤ e → e ≤ max a.2.2.2 b.2.2.2 → ((sg n m * 2 ^ (e - min a.2.2.2 b.2.2.2).toNat).natAbs : Int) < 2 ^ (64 + (max a.2.2.2 b.2.2.2 - min a.2.2.2 b.2.2.2).toNat) := fun n m e h0 h1 h2 h3 => by
    have h4 := Int.natAbs_mul (sg n m) (2 ^ (e - min a.2.2.2 b.2.2.2).toNat)
    have h5 := p2_pos (e - min a.2.2.2 b.2.2.2).toNat
    rw [h4, Int.natCast_mul, sg_abs n h0, show ((((2 : Int) ^ (e - min a.2.2.2 b.2.2.2).toNat).natAbs : Nat) : Int) = 2 ^ (e - min a.2.2.2 b.2.2.2).toNat from Int.natAbs_of_nonneg (by omega)]
    have h6 := mul_lt_p (e - min a.2.2.2 b.2.2.2).toNat h1
    have h7 := p2_mono (show 64 + (e - min a.2.2.2 b.2.2.2).toNat ≤ 64 + (max a.2.2.2 b.2.2.2 - min a.2.2.2 b.2.2.2).toNat by omega)
    rw [p2_add, p64] at h7
    omega
  have q1 := bd a.2.1 a.2.2.1 a.2.2.2 (by omega) a1 (by omega) (by omega)
  have q2 := bd b.2.1 b.2.2.1 b.2.2.2 (by omega) b1 (by omega) (by omega)
  have q3 : ((exs a b (min a.2.2.2 b.2.2.2)).natAbs : Int) < 2 ^ (64 + (max a.2.2.2 b.2.2.2 - min a.2.2.2 b.2.2.2).toNat + 1) := by
    rw [p2_succ]
    unfold exs
    generalize sg a.2.1 a.2.2.1 * 2 ^ (a.2.2.2 - min a.2.2.2 b.2.2.2).toNat = A at *
    generalize sg b.2.1 b.2.2.1 * 2 ^ (b.2.2.2 - min a.2.2.2 b.2.2.2).toNat = B at *
    omega
  have q4 := bl_le q3
  have q5 := bl_pos (n := ((exs a b (min a.2.2.2 b.2.2.2)).natAbs : Int)) (by omega)
  have := rnd_E (v := ((exs a b (min a.2.2.2 b.2.2.2)).natAbs : Int)) (e := min a.2.2.2 b.2.2.2) (X := X - 63) (Y := Y + 1) (by omega) (by omega) (by omega) (by omega) (by omega) (decide (exs a b (min a.2.2.2 b.2.2.2) < 0)) (up != decide (exs a b (min a.2.2.2 b.2.2.2) < 0))
  omega
theorem addv_none {b : Nm} (hb : mayP b) (up : Bool) : addv (0, false, 0, 0) b up = b := by
  obtain ⟨b1, b2, b3, b4⟩ := b
  rcases hb with ⟨h1, h2, h3, h4⟩ | ⟨h1, _⟩ | ⟨h1, _⟩ <;> simp only at h1
  · simp only at h2 h3 h4; subst h1 h2 h3 h4; rfl
  · subst h1; simp [addv]
  · subst h1; simp [addv]
theorem few_eq (a : Int) (b : Bool) (c d : Int) : peloruslaw06_Few.f a b c d = some (decide (a = 1 → -1500 ≤ d ∧ d ≤ 1500)) := by
  unfold peloruslaw06_Few.f
  by_cases h : a = 1
  · rw [if_pos h]
    by_cases h2 : d ≥ -1500
    · rw [if_pos h2]
      congr 1
      rw [decide_eq_decide]
      exact ⟨fun h3 _ => ⟨h2, h3⟩, fun h3 => (h3 h).2⟩
    · rw [if_neg h2]
      congr 1
      exact (decide_eq_false fun h3 => h2 (h3 h).1).symm
  · rw [if_neg h]
    congr 1
    exact (decide_eq_true fun h3 => absurd h3 h).symm
def FewP (x : S24) : Prop := x.f0 = 1 → -1500 ≤ x.f3 ∧ x.f3 ≤ 1500
instance (x : S24) : Decidable (FewP x) := by unfold FewP; infer_instance
theorem few_nm {x : S24} (h : FewP x) : -1500 ≤ (nm x).2.2.2 ∧ (nm x).2.2.2 ≤ 1500 := by
  unfold nm fairv
  by_cases m : mayP (x.f0, x.f1, x.f2, x.f3)
  · rw [if_pos m]
    rcases m with ⟨_, _, _, h4⟩ | ⟨h1, _⟩ | ⟨_, _, h3⟩
    · simp only at h4 ⊢; omega
    · exact h h1
    · simp only at h3 ⊢; omega
  · rw [if_neg m]
    simp only
    omega
theorem rsum_l0 (l : List S24) (hl : ∀ x ∈ l, ok24 x) (hf : ∀ x ∈ l, FewP x) (hb : l.length ≤ 20) (up : Bool) (d : Nat) : ∀ (i : Nat) (acc : Nm), l.length - i = d → 1 ≤ i → i ≤ l.length → mayP acc → -1500 - 64 * (i : Int) ≤ acc.2.2.2 → acc.2.2.2 ≤ 1500 + 2 * (i : Int) →
    ∃ K, ∀ k, K ≤ k → pelorusref06_Sum.l0 k up l (i : Int) acc.1 acc.2.1 acc.2.2.1 acc.2.2.2 = some (sumv up acc (l.drop i)) := by
  induction d with
  | zero =>
    intro i acc hd h1 hi ha e0 e1
    refine ⟨1, fun k hk => ?_⟩
    obtain ⟨k, rfl⟩ : ∃ m, k = m + 1 := ⟨k - 1, by omega⟩
    simp only [pelorusref06_Sum.l0]
    rw [if_neg (by omega), List.drop_of_length_le (by omega)]
    rfl
  | succ d ih =>
    intro i acc hd h1 hi ha e0 e1
    have hlt : i < l.length := by omega
    have ho := ok_at hl hlt
    have hfx : FewP (l.getD i z24) := by
      rw [List.getD_eq_getElem?_getD, List.getElem?_eq_getElem hlt]
      exact hf _ (List.getElem_mem hlt)
    have fx := few_nm hfx
    have e : fairv ((l.getD i z24).f0, (l.getD i z24).f1, (l.getD i z24).f2, (l.getD i z24).f3) = nm (l.getD i z24) := rfl
    obtain ⟨K1, g1⟩ := add6_ev acc.1 acc.2.1 acc.2.2.1 acc.2.2.2 (l.getD i z24).f0 (l.getD i z24).f1 (l.getD i z24).f2 (l.getD i z24).f3 up (may_lt ha) (m_lt ho.2.2.1) (by rw [tup, fairv_of ha]; omega) (by rw [e]; omega)
    rw [tup, fairv_of ha, e] at g1
    have m := addv_may up ha (nm_may (l.getD i z24))
    have E := addv_E (X := -1500 - 64 * (i : Int)) (Y := 1500 + 2 * (i : Int)) ha (nm_may (l.getD i z24)) up (by omega) (by omega) (by omega) (by omega) ⟨e0, e1⟩ (by omega)
    obtain ⟨K2, g2⟩ := ih (i + 1) (addv acc (nm (l.getD i z24)) up) (by omega) (by omega) (by omega) m (by omega) (by omega)
    refine ⟨K1 + K2 + 1, fun k hk => ?_⟩
    obtain ⟨k, rfl⟩ : ∃ m, k = m + 1 := ⟨k - 1, by omega⟩
    simp only [pelorusref06_Sum.l0, rd_at]
    rw [if_pos (by omega), if_neg (by omega), if_pos (by omega), g1 k (by omega), Option.bind_some, w64 (by omega) (by omega), show ((i : Int) + 1) = ((i + 1 : Nat) : Int) by omega, g2 k (by omega), drop_at hlt, sumv_cons]
theorem rsum_ev (l : List S24) (hl : ∀ x ∈ l, ok24 x) (hf : ∀ x ∈ l, FewP x) (hb : l.length ≤ 20) (up : Bool) : ∃ K, ∀ k, K ≤ k → pelorusref06_Sum.f k up l = some (sumv up (0, false, 0, 0) l) := by
  by_cases h0 : l.length = 0
  · refine ⟨1, fun k hk => ?_⟩
    obtain ⟨k, rfl⟩ : ∃ m, k = m + 1 := ⟨k - 1, by omega⟩
    obtain rfl : l = [] := List.length_eq_zero_iff.1 h0
    rfl
  · have hlt : 0 < l.length := by omega
    have ho := ok_at hl hlt
    have hfx : FewP (l.getD 0 z24) := by
      rw [List.getD_eq_getElem?_getD, List.getElem?_eq_getElem hlt]
      exact hf _ (List.getElem_mem hlt)
    have fx := few_nm hfx
    obtain ⟨K, g⟩ := rsum_l0 l hl hf hb up (l.length - 1) 1 (nm (l.getD 0 z24)) rfl (by omega) (by omega) (nm_may _) (by omega) (by omega)
    refine ⟨K + 1, fun k hk => ?_⟩
    obtain ⟨k, rfl⟩ : ∃ m, k = m + 1 := ⟨k - 1, by omega⟩
    have r0 : rd_T24 l 0 = l.getD 0 z24 := rfl
    unfold pelorusref06_Sum.f
    simp only [pelorusref06_Sum.l0, r0]
    rw [if_pos (by omega), if_pos trivial, if_pos (by omega), fair6_eq _ _ _ _ (m_lt ho.2.2.1), Option.bind_some, w64 (by omega) (by omega)]
    have e : fairv ((l.getD 0 z24).f0, (l.getD 0 z24).f1, (l.getD 0 z24).f2, (l.getD 0 z24).f3) = nm (l.getD 0 z24) := rfl
    rw [e]
    refine (g k (by omega)).trans ?_
    have d0 : l = l.getD 0 z24 :: l.drop 1 := by
      have := drop_at hlt
      rwa [List.drop_zero] at this
    conv => rhs; rw [d0]
    rw [sumv_cons, addv_none (nm_may _)]
theorem sumv_le (l : List S24) : ∀ a b : Nm, mayP a → mayP b → kv a ≤ kv b → kv (sumv false a l) ≤ kv (sumv true b l) := by
  induction l with
  | nil => exact fun a b _ _ h => h
  | cons x l ih =>
    intro a b ha hb h
    rw [sumv_cons, sumv_cons]
    exact ih _ _ (addv_may _ ha (nm_may x)) (addv_may _ hb (nm_may x)) (Int.le_trans (addv_mono ha hb (nm_may x) false h) (addv_updown hb (nm_may x)))
theorem many_l0 (l : List S24) (hl : ∀ x ∈ l, ok24 x) (hb : l.length ≤ 20) (up : Bool) (d : Nat) : ∀ i : Nat, l.length - i = d → i ≤ l.length → (∀ j, j < i → FewP (l.getD j z24)) → ∃ K, ∀ k, K ≤ k → peloruslaw06_ArithMany.l0 k l up (i : Int) = some true := by
  induction d with
  | zero =>
    intro i hd hi hfew
    have hf : ∀ x ∈ l, FewP x := fun x hx => by
      obtain ⟨j, hj, rfl⟩ := List.getElem_of_mem hx
      have := hfew j (by omega)
      rwa [List.getD_eq_getElem?_getD, List.getElem?_eq_getElem hj] at this
    obtain ⟨K, g⟩ := rsum_ev l hl hf hb up
    have m0 : mayP (0, false, 0, 0) := .inl ⟨rfl, rfl, rfl, rfl⟩
    refine ⟨K + 100, fun k hk => ?_⟩
    obtain ⟨k, rfl⟩ : ∃ m, k = m + 1 := ⟨k - 1, by omega⟩
    have s := fun up => sum_l0 l hl (by omega) up l.length 0 (0, false, 0, 0) (by omega) (by omega) m0 k (by omega)
    simp only [List.drop_zero] at s
    have s' : ∀ up, arith_Sum.f k up l = some (sumv up (0, false, 0, 0) l) := s
    simp only [peloruslaw06_ArithMany.l0]
    rw [if_neg (by omega), s', Option.bind_some, s', Option.bind_some, s', Option.bind_some, g k (by omega), Option.bind_some, if_pos (nm_beq rfl), cmp_g (sumv_may _ _ _ m0) (sumv_may _ _ _ m0), Option.bind_some]
    have := sumv_le l _ _ m0 m0 (Int.le_refl _)
    rw [decide_eq_true (sgn_le.2 (by omega))]
  | succ d ih =>
    intro i hd hi hfew
    have hlt : i < l.length := by omega
    by_cases hF : FewP (l.getD i z24)
    · obtain ⟨K, g⟩ := ih (i + 1) (by omega) (by omega) (fun j hj => by
        by_cases z : j = i
        · rw [z]; exact hF
        · exact hfew j (by omega))
      refine ⟨K + 1, fun k hk => ?_⟩
      obtain ⟨k, rfl⟩ : ∃ m, k = m + 1 := ⟨k - 1, by omega⟩
      simp only [peloruslaw06_ArithMany.l0, rd_at]
      rw [if_pos (by omega), if_pos (by omega), few_eq, Option.bind_some, decide_eq_true (show (l.getD i z24).f0 = 1 → -1500 ≤ (l.getD i z24).f3 ∧ (l.getD i z24).f3 ≤ 1500 from hF), if_pos rfl, w64 (by omega) (by omega), show ((i : Int) + 1) = ((i + 1 : Nat) : Int) by omega]
      exact g k (by omega)
    · refine ⟨1, fun k hk => ?_⟩
      obtain ⟨k, rfl⟩ : ∃ m, k = m + 1 := ⟨k - 1, by omega⟩
      simp only [peloruslaw06_ArithMany.l0, rd_at]
      rw [if_pos (by omega), if_pos (by omega), few_eq, Option.bind_some, decide_eq_false (show ¬ ((l.getD i z24).f0 = 1 → -1500 ≤ (l.getD i z24).f3 ∧ (l.getD i z24).f3 ≤ 1500) from hF), if_neg (by decide)]
theorem ArithMany : peloruslaw06_ArithMany.Pure := by
  intro l up hl
  by_cases h20 : l.length > 20
  · refine ⟨9, ?_, fun r h => by rw [awake_ev 9 (by omega)] at h; exact (Option.some.inj h).symm⟩
    unfold peloruslaw06_ArithMany.f
    rw [awake_ev 9 (by omega), Option.bind_some, if_pos rfl, decide_eq_true (by omega)]
    rfl
  · obtain ⟨K, g⟩ := many_l0 l hl.2.2 (by omega) up l.length 0 (by omega) (by omega) (fun j hj => absurd hj (by omega))
    refine ⟨K + 10, ?_, fun r h => by rw [awake_ev _ (by omega)] at h; exact (Option.some.inj h).symm⟩
    unfold peloruslaw06_ArithMany.f
    rw [awake_ev _ (by omega), Option.bind_some, if_pos rfl, decide_eq_false (by omega)]
    simp only [peloruslaw06_ArithMany.j0, Bool.false_eq_true, if_false]
    exact g _ (by omega)
end Go.Proofs.Ythlhogcnfaiphaa.Pure
