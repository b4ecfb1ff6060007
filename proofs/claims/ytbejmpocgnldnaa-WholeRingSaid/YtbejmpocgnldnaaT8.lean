/- What the document's answers for layer 1 are (pelorusref01), in terms of values and limbs. -/
import Derived.Test.YtbejmpocgnldnaaPZx1
import Derived.Test.YtbejmpocgnldnaaT6
namespace Go.Proofs.Ytbejmpocgnldnaa.T
set_option linter.unusedVariables false
set_option linter.unusedSimpArgs false
open Go.RowKit Go.Proofs.YtbejmpocgnldnaaW.PrintWords Go.Proofs.YtbejmpocgnldnaaW.PrintMore Go.Proofs.Ytbejmpocgnldnaa.PZ

theorem rtrim_l0 (l : List Int) (h : U l) (hb : l.length ≤ 1073741824) (n : Nat) (hn : n ≤ l.length) (hv : val (l.take n) = val l) : ∃ K, ∀ k, K ≤ k → pelorusref01_Trim.l0 k l (n : Int) = some (lim (val l)) := by
  induction n with
  | zero =>
    refine ⟨1, fun k hk => ?_⟩
    obtain ⟨k, rfl⟩ : ∃ m, k = m + 1 := ⟨k - 1, by omega⟩
    simp only [pelorusref01_Trim.l0, Int.natCast_zero]
    rw [if_neg (by omega), if_pos (by omega), if_pos (by omega), if_pos (by simp)]
    rw [List.take_zero, val_nil] at hv
    rw [← hv, lim_zero]
    simp
  | succ n ih =>
    by_cases hz : l.getD n 0 = 0
    · obtain ⟨K, hK⟩ := ih (by omega) (by rw [val_take_succ', hz] at hv; omega)
      refine ⟨K + 1, fun k hk => ?_⟩
      obtain ⟨k, rfl⟩ : ∃ m, k = m + 1 := ⟨k - 1, by omega⟩
      simp only [pelorusref01_Trim.l0, w64_pred (show 0 < n + 1 by omega) (show n + 1 < 9223372036854775808 by omega), Nat.add_sub_cancel, Int.toNat_natCast, rd_eq]
      rw [if_pos (by omega), if_pos (by omega), if_pos (by omega), if_pos hz]
      exact hK k (by omega)
    · have hl : lim (val l) = l.take (n + 1) := by
        rw [← hv]
        refine lim_of_norm (U_take h _) (fun _ => ?_)
        rw [List.length_take, Nat.min_eq_left hn, Nat.add_sub_cancel, List.getD_eq_getElem?_getD, List.getElem?_take, if_pos (by omega), ← List.getD_eq_getElem?_getD]
        exact hz
      have hlen : (l.take (n + 1)).length = n + 1 := by rw [List.length_take, Nat.min_eq_left hn]
      refine ⟨1, fun k hk => ?_⟩
      obtain ⟨k, rfl⟩ : ∃ m, k = m + 1 := ⟨k - 1, by omega⟩
      simp only [pelorusref01_Trim.l0, w64_pred (show 0 < n + 1 by omega) (show n + 1 < 9223372036854775808 by omega), Nat.add_sub_cancel, Int.toNat_natCast, rd_eq]
      rw [if_pos (by omega), if_pos (by omega), if_pos (by omega), if_neg hz, if_pos (by omega), if_pos (by omega), if_pos (by rw [hlen]; simp; omega), hl, List.nil_append]
theorem rtrim_ev (l : List Int) (h : U l) (hb : l.length ≤ 1073741824) : ∃ K, ∀ k, K ≤ k → pelorusref01_Trim.f k l = some (lim (val l)) :=
  rtrim_l0 l h hb l.length (Nat.le_refl _) (by rw [List.take_length])
theorem rcmp_l0 (a b : List Int) (ha : U a) (hb : U b) (hl : a.length = b.length) (hc : a.length ≤ 1073741824) (n : Nat) :
    n ≤ a.length → a.drop n = b.drop n → ∃ K, ∀ k, K ≤ k → pelorusref01_Cmp.l0 k a b ((n : Int) - 1) = some (sgn (val a - val b)) := by
  induction n with
  | zero =>
    intro hi he
    refine ⟨1, fun k hk => ?_⟩
    obtain ⟨k, rfl⟩ : ∃ m, k = m + 1 := ⟨k - 1, by omega⟩
    simp only [pelorusref01_Cmp.l0]
    rw [if_neg (by omega)]
    rw [List.drop_zero, List.drop_zero] at he
    rw [he, Int.sub_self, sgn_zero]
  | succ n ih =>
    intro hi he
    have ht : ((n + 1 : Nat) : Int) - 1 = (n : Int) := by omega
    rcases Int.lt_trichotomy (a.getD n 0) (b.getD n 0) with hlt | heq | hgt
    · refine ⟨1, fun k hk => ?_⟩
      obtain ⟨k, rfl⟩ : ∃ m, k = m + 1 := ⟨k - 1, by omega⟩
      have := val_lt_top ha hb (k := n) (by omega) (by omega) he hlt
      simp only [pelorusref01_Cmp.l0, ht, rd_eq, Int.toNat_natCast]
      rw [if_pos (by omega), if_pos (by omega), if_pos (by omega), if_pos (by omega), if_pos hlt, sgn_neg (by omega)]
    · obtain ⟨K, hK⟩ := ih (by omega) (by rw [drop_eq (by omega), drop_eq (l := b) (by omega), heq, he])
      refine ⟨K + 1, fun k hk => ?_⟩
      obtain ⟨k, rfl⟩ : ∃ m, k = m + 1 := ⟨k - 1, by omega⟩
      simp only [pelorusref01_Cmp.l0, ht, rd_eq, Int.toNat_natCast, w64 (show -9223372036854775808 ≤ (n : Int) - 1 by omega) (show (n : Int) - 1 < 9223372036854775808 by omega)]
      rw [if_pos (by omega), if_pos (by omega), if_pos (by omega), if_pos (by omega), if_neg (by omega), if_neg (by omega)]
      exact hK k (by omega)
    · refine ⟨1, fun k hk => ?_⟩
      obtain ⟨k, rfl⟩ : ∃ m, k = m + 1 := ⟨k - 1, by omega⟩
      have := val_lt_top hb ha (k := n) (by omega) (by omega) he.symm hgt
      simp only [pelorusref01_Cmp.l0, ht, rd_eq, Int.toNat_natCast]
      rw [if_pos (by omega), if_pos (by omega), if_pos (by omega), if_pos (by omega), if_neg (by omega), if_pos (by omega), sgn_pos (by omega)]
theorem rcmp_ev (a b : List Int) (ha : U a) (hb : U b) (hla : a.length ≤ 1073741824) (hlb : b.length ≤ 1073741824) : ∃ K, ∀ k, K ≤ k → pelorusref01_Cmp.f k a b = some (sgn (val a - val b)) := by
  obtain ⟨K1, h1⟩ := rtrim_ev a ha hla
  obtain ⟨K2, h2⟩ := rtrim_ev b hb hlb
  have na := val_nonneg ha
  have nb := val_nonneg hb
  have la := lim_len na a.length (val_lt ha)
  have lb := lim_len nb b.length (val_lt hb)
  rcases Nat.lt_trichotomy (lim (val a)).length (lim (val b)).length with hlt | heq | hgt
  · refine ⟨K1 + K2, fun k hk => ?_⟩
    have := lim_len_lt na hlt
    unfold pelorusref01_Cmp.f
    rw [h1 k (by omega), Option.bind_some, h2 k (by omega), Option.bind_some, if_neg (by omega), if_pos (by omega), sgn_neg (by omega)]
  · obtain ⟨K3, h3⟩ := rcmp_l0 (lim (val a)) (lim (val b)) (U_lim na) (U_lim nb) heq (by omega) _ (Nat.le_refl _) (by rw [List.drop_length, heq, List.drop_length])
    refine ⟨K1 + K2 + K3, fun k hk => ?_⟩
    have h4 := h3 k (by omega)
    rw [val_lim na, val_lim nb] at h4
    unfold pelorusref01_Cmp.f
    rw [h1 k (by omega), Option.bind_some, h2 k (by omega), Option.bind_some, if_pos (by omega), w64 (by omega) (by omega)]
    exact h4
  · refine ⟨K1 + K2, fun k hk => ?_⟩
    have := lim_len_lt nb hgt
    unfold pelorusref01_Cmp.f
    rw [h1 k (by omega), Option.bind_some, h2 k (by omega), Option.bind_some, if_neg (by omega), if_neg (by omega), sgn_pos (by omega)]
theorem rat (l : List Int) (h : U l) (i : Nat) : pelorusref01_at.f l (i : Int) = some (l.getD i 0) := by
  have hu := U_getD h i
  unfold pelorusref01_at.f
  by_cases hi : i < l.length
  · rw [if_neg (by omega), if_pos (by omega), if_pos (by omega), rd_eq, Int.toNat_natCast, u64w hu.1 (by omega)]
  · rw [if_pos (by omega), getD_out l i (by omega)]
theorem snoc_val (l : List Int) (x : Int) : val (l ++ [x]) = val l + pw l.length * x := by rw [val_append]; simp
theorem U_snoc {l : List Int} (h : U l) {x : Int} (h0 : 0 ≤ x) (h1 : x < 4294967296) : U (l ++ [x]) := U_append.2 ⟨h, U_single h0 h1⟩
theorem radd_l0 (a b : List Int) (ha : U a) (hb : U b) (hla : a.length ≤ 1073741823) (hlb : b.length ≤ 1073741823) (d : Nat) :
    ∀ (i : Nat) (o : List Int) (c : Int), max a.length b.length + 1 - i = d → i ≤ max a.length b.length + 1 → o.length = i → U o → 0 ≤ c ∧ c ≤ 1 → (i = max a.length b.length + 1 → c = 0) → val o + pw i * c = val (a.take i) + val (b.take i) →
      ∃ K, ∀ k, K ≤ k → pelorusref01_Add.l0 k a b o c (i : Int) = some (lim (val a + val b)) := by
  induction d with
  | zero =>
    intro i o c hd hi hol ho hc hz he
    have hc0 := hz (by omega)
    subst hc0
    obtain ⟨K, hK⟩ := rtrim_ev o ho (by omega)
    rw [take_out a i (by omega), take_out b i (by omega), Int.mul_zero, Int.add_zero] at he
    rw [he] at hK
    refine ⟨K + 2, fun k hk => ?_⟩
    obtain ⟨k, rfl⟩ : ∃ m, k = m + 1 + 1 := ⟨k - 2, by omega⟩
    simp only [pelorusref01_Add.l0, pelorusref01_Add.j1]
    rw [if_neg (by omega), if_neg (by omega), decide_eq_false (by omega), if_neg (by simp), hK k (by omega), Option.bind_some]
  | succ d ih =>
    intro i o c hd hi hol ho hc hz he
    have hai := U_getD ha i
    have hbi := U_getD hb i
    obtain ⟨n, hn⟩ : ∃ n, n = a.getD i 0 + b.getD i 0 + c := ⟨_, rfl⟩
    have hround : ∀ k, pelorusref01_Add.j1 (k + 1) a b o c (i : Int) true = pelorusref01_Add.l0 k a b (o ++ [n % 4294967296]) (n / 4294967296) ((i + 1 : Nat) : Int) := by
      intro k
      simp only [pelorusref01_Add.j1]
      rw [if_pos trivial, rat a ha, Option.bind_some, rat b hb, Option.bind_some, if_pos (by omega), u64w (x := a.getD i 0 + b.getD i 0) (by omega) (by omega), ← hn, u64w (x := n) (by omega) (by omega), Int.tmod_eq_emod_of_nonneg (by omega), Int.tdiv_eq_ediv_of_nonneg (by omega), u64w (x := n / 4294967296) (by omega) (by omega), w64_succ (by omega), show n % 4294967296 % 4294967296 = n % 4294967296 by omega]
    by_cases hgo : i < a.length ∨ i < b.length ∨ 0 < c
    · have key : val (o ++ [n % 4294967296]) + pw (i + 1) * (n / 4294967296) = val (a.take (i + 1)) + val (b.take (i + 1)) := by
        rw [snoc_val, hol, val_take_succ', val_take_succ', pw_succ]
        exact step_add (by rw [← hn]; exact Int.emod_add_mul_ediv n 4294967296) he
      have hlast : i + 1 = max a.length b.length + 1 → n / 4294967296 = 0 := by
        intro hq
        have e1 := getD_out a i (by omega)
        have e2 := getD_out b i (by omega)
        omega
      obtain ⟨K, hK⟩ := ih (i + 1) (o ++ [n % 4294967296]) (n / 4294967296) (by omega) (by omega) (by rw [List.length_append]; simp; omega) (U_snoc ho (by omega) (by omega)) (by omega) hlast key
      refine ⟨K + 2, fun k hk => ?_⟩
      obtain ⟨k, rfl⟩ : ∃ m, k = m + 1 + 1 := ⟨k - 2, by omega⟩
      simp only [pelorusref01_Add.l0]
      by_cases g1 : i < a.length
      · rw [if_pos (by omega), hround]
        exact hK k (by omega)
      · rw [if_neg (by omega)]
        by_cases g2 : i < b.length
        · rw [if_pos (by omega), hround]
          exact hK k (by omega)
        · rw [if_neg (by omega), decide_eq_true (by omega), hround]
          exact hK k (by omega)
    · have hc0 : c = 0 := by omega
      subst hc0
      obtain ⟨K, hK⟩ := rtrim_ev o ho (by omega)
      rw [take_out a i (by omega), take_out b i (by omega), Int.mul_zero, Int.add_zero] at he
      rw [he] at hK
      refine ⟨K + 2, fun k hk => ?_⟩
      obtain ⟨k, rfl⟩ : ∃ m, k = m + 1 + 1 := ⟨k - 2, by omega⟩
      simp only [pelorusref01_Add.l0, pelorusref01_Add.j1]
      rw [if_neg (by omega), if_neg (by omega), decide_eq_false (by omega), if_neg (by simp), hK k (by omega), Option.bind_some]
theorem radd_ev (a b : List Int) (ha : U a) (hb : U b) (hla : a.length ≤ 1073741823) (hlb : b.length ≤ 1073741823) : ∃ K, ∀ k, K ≤ k → pelorusref01_Add.f k a b = some (lim (val a + val b)) :=
  radd_l0 a b ha hb hla hlb _ 0 [] 0 rfl (by omega) rfl U_nil (by omega) (fun h => by omega) (by simp)
theorem rsub_l0 (a b : List Int) (ha : U a) (hb : U b) (hla : a.length ≤ 1073741823) (hv : val b ≤ val a) (d : Nat) :
    ∀ (i : Nat) (o : List Int) (c : Int), a.length - i = d → i ≤ a.length → o.length = i → U o → 0 ≤ c ∧ c ≤ 1 → val o - pw i * c = val (a.take i) - val (b.take i) →
      ∃ K, ∀ k, K ≤ k → pelorusref01_Sub.l0 k a b o c (i : Int) = some (lim (val a - val b), true) := by
  induction d with
  | zero =>
    intro i o c hd hi hol ho hc he
    obtain rfl : i = a.length := by omega
    obtain ⟨K, hK⟩ := rtrim_ev o ho (by omega)
    have hbl : val (b.take a.length) = val b := val_take_of_lt hb (Int.lt_of_le_of_lt hv (val_lt ha))
    rw [List.take_length, hbl] at he
    have hlt := val_lt ho
    have hp := pw_pos o.length
    have hc0 : c = 0 := by
      rcases (show c = 0 ∨ c = 1 by omega) with h | h
      · exact h
      · subst h
        rw [hol] at hlt hp
        omega
    subst hc0
    have hvo : val o = val a - val b := by omega
    rw [hvo] at hK
    refine ⟨K + 1, fun k hk => ?_⟩
    obtain ⟨k, rfl⟩ : ∃ m, k = m + 1 := ⟨k - 1, by omega⟩
    simp only [pelorusref01_Sub.l0]
    rw [if_neg (by omega), hK k (by omega), Option.bind_some]
  | succ d ih =>
    intro i o c hd hi hol ho hc he
    have hai := U_getD ha i
    have hbi := U_getD hb i
    obtain ⟨n, hn⟩ : ∃ n, n = 4294967296 + a.getD i 0 - b.getD i 0 - c := ⟨_, rfl⟩
    have key : val (o ++ [n % 4294967296]) - pw (i + 1) * (1 - n / 4294967296) = val (a.take (i + 1)) - val (b.take (i + 1)) := by
      rw [snoc_val, hol, val_take_succ', val_take_succ', pw_succ]
      have := step_sub (P := pw i) (A := val o) (q := n / 4294967296 - 1) (r := n % 4294967296) (x := a.getD i 0) (y := b.getD i 0) (c := c) (by omega) he
      rw [show -(n / 4294967296 - 1) = 1 - n / 4294967296 by omega] at this
      exact this
    obtain ⟨K, hK⟩ := ih (i + 1) (o ++ [n % 4294967296]) (1 - n / 4294967296) (by omega) (by omega) (by rw [List.length_append]; simp; omega) (U_snoc ho (by omega) (by omega)) (by omega) key
    refine ⟨K + 1, fun k hk => ?_⟩
    obtain ⟨k, rfl⟩ : ∃ m, k = m + 1 := ⟨k - 1, by omega⟩
    simp only [pelorusref01_Sub.l0]
    rw [if_pos (by omega), rat a ha, Option.bind_some, rat b hb, Option.bind_some, if_pos (by omega), u64w (x := 4294967296 + a.getD i 0) (by omega) (by omega), u64w (x := 4294967296 + a.getD i 0 - b.getD i 0) (by omega) (by omega), ← hn, u64w (x := n) (by omega) (by omega), Int.tmod_eq_emod_of_nonneg (by omega), Int.tdiv_eq_ediv_of_nonneg (by omega), u64w (x := n / 4294967296) (by omega) (by omega), u64w (x := 1 - n / 4294967296) (by omega) (by omega), w64_succ (by omega), show n % 4294967296 % 4294967296 = n % 4294967296 by omega]
    exact hK k (by omega)
theorem rsub_ev (a b : List Int) (ha : U a) (hb : U b) (hla : a.length ≤ 1073741823) (hlb : b.length ≤ 1073741823) : ∃ K, ∀ k, K ≤ k → pelorusref01_Sub.f k a b = some (if val a < val b then ([], false) else (lim (val a - val b), true)) := by
  obtain ⟨K1, h1⟩ := rcmp_ev a b ha hb (by omega) (by omega)
  by_cases hlt : val a < val b
  · refine ⟨K1, fun k hk => ?_⟩
    unfold pelorusref01_Sub.f
    rw [h1 k hk, Option.bind_some, sgn_neg (by omega), if_pos (by omega), if_pos hlt]
  · obtain ⟨K2, h2⟩ := rsub_l0 a b ha hb hla (by omega) _ 0 [] 0 rfl (by omega) rfl U_nil (by omega) (by simp)
    have hs : ¬ sgn (val a - val b) < 0 := by unfold sgn; split <;> (try split) <;> omega
    refine ⟨K1 + K2, fun k hk => ?_⟩
    unfold pelorusref01_Sub.f
    rw [h1 k (by omega), Option.bind_some, if_neg hs, if_neg hlt]
    exact h2 k (by omega)
theorem rsame_l0 (a : List Int) (hl : a.length ≤ 4611686018427387903) (d : Nat) : ∀ i : Nat, a.length - i = d → i ≤ a.length → ∃ K, ∀ k, K ≤ k → pelorusref01_Same.l0 k a a (i : Int) = some true := by
  induction d with
  | zero =>
    intro i hd hi
    refine ⟨1, fun k hk => ?_⟩
    obtain ⟨k, rfl⟩ : ∃ m, k = m + 1 := ⟨k - 1, by omega⟩
    simp only [pelorusref01_Same.l0]
    rw [if_neg (by omega)]
  | succ d ih =>
    intro i hd hi
    obtain ⟨K, hK⟩ := ih (i + 1) (by omega) (by omega)
    refine ⟨K + 1, fun k hk => ?_⟩
    obtain ⟨k, rfl⟩ : ∃ m, k = m + 1 := ⟨k - 1, by omega⟩
    simp only [pelorusref01_Same.l0, w64_succ (show i < 4611686018427387904 by omega)]
    rw [if_pos (by omega), if_pos (by omega), if_pos (by omega), if_pos trivial]
    exact hK k (by omega)
theorem rsame_ev (a : List Int) (hl : a.length ≤ 4611686018427387903) : ∃ K, ∀ k, K ≤ k → pelorusref01_Same.f k a a = some true := by
  obtain ⟨K, hK⟩ := rsame_l0 a hl _ 0 rfl (by omega)
  refine ⟨K, fun k hk => ?_⟩
  unfold pelorusref01_Same.f
  rw [if_pos rfl]
  exact hK k hk
end Go.Proofs.Ytbejmpocgnldnaa.T
