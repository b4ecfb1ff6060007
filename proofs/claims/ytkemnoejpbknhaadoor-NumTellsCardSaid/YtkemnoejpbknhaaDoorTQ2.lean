/- What the document's answers for layer 1 are (pelorusref01), in terms of values and limbs. What the document's answers for layer 1 are (second part: products, bits, quotients, roots). What the document's answers for layers 2, 3, 5 and 6 are, as far as layer 6 needs them: exact numbers, as a sign, limbs and a power of two; the exact sum, the exact product, rounded. Sums and products keep the order; what Cmp and Sign compute. What the functions of package whole, and the document's answers for layer 2, compute: numbers with a sign. What the products, quotients and conversions of layer 2 compute; what wakes its statements. What layer 3 makes of a number and a power of two: the noughts at its end taken off. The numbers of layer 3, as the code and the document make them; what layer 5 rounds them to. The order of the numbers of layer 5 by a whole number each; the next ones, whole numbers, the least. -/
import Derived.Test.YtkemnoejpbknhaaDoorPAx2
import Derived.Test.YtkemnoejpbknhaaDoorTQ1
namespace Go.Proofs.YtkemnoejpbknhaaDoor.T
set_option linter.unusedVariables false
set_option linter.unusedSimpArgs false
open Go.RowKit Go.Proofs.YtkemnoejpbknhaaDoorW.PrintWords Go.Proofs.YtkemnoejpbknhaaDoorW.PrintMore Go.Proofs.YtkemnoejpbknhaaDoor.PA

theorem rtrim_l0 (l : List Int) (h : U l) (hb : l.length ≤ 1073741824) (n : Nat) (hn : n ≤ l.length) (hv : val (l.take n) = val l) : ∃ K, ∀ k, K ≤ k → pelorusref01_Trim.l0 k l (n : Int) = some (lim (val l)) := by
  induction n with
  | zero =>
    refine ⟨1, fun k hk => ?_⟩
    obtain ⟨k, rfl⟩ : ∃ m, k = m + 1 := ⟨k - 1, by omega⟩
    simp only [pelorusref01_Trim.l0, Int.natCast_zero]
    rw [if_neg (by omega), if_pos (by omega), if_pos (by omega), if_pos (by simp)]
    rw [List.take_zero, val_nil] at hv
    rw [← hv, lim_zero]
    simp
  | succ n ih =>
    by_cases hz : l.getD n 0 = 0
    · obtain ⟨K, hK⟩ := ih (by omega) (by rw [val_take_succ', hz] at hv; omega)
      refine ⟨K + 1, fun k hk => ?_⟩
      obtain ⟨k, rfl⟩ : ∃ m, k = m + 1 := ⟨k - 1, by omega⟩
      simp only [pelorusref01_Trim.l0, w64_pred (show 0 < n + 1 by omega) (show n + 1 < 9223372036854775808 by omega), Nat.add_sub_cancel, Int.toNat_natCast, rd_eq]
      rw [if_pos (by omega), if_pos (by omega), if_pos (by omega), if_pos hz]
      exact hK k (by omega)
    · have hl : lim (val l) = l.take (n + 1) := by
        rw [← hv]
        refine lim_of_norm (U_take h _) (fun _ => ?_)
        rw [List.length_take, Nat.min_eq_left hn, Nat.add_sub_cancel, List.getD_eq_getElem?_getD, List.getElem?_take, if_pos (by omega), ← List.getD_eq_getElem?_getD]
        exact hz
      have hlen : (l.take (n + 1)).length = n + 1 := by rw [List.length_take, Nat.min_eq_left hn]
      refine ⟨1, fun k hk => ?_⟩
      obtain ⟨k, rfl⟩ : ∃ m, k = m + 1 := ⟨k - 1, by omega⟩
      simp only [pelorusref01_Trim.l0, w64_pred (show 0 < n + 1 by omega) (show n + 1 < 9223372036854775808 by omega), Nat.add_sub_cancel, Int.toNat_natCast, rd_eq]
      rw [if_pos (by omega), if_pos (by omega), if_pos (by omega), if_neg hz, if_pos (by omega), if_pos (by omega), if_pos (by rw [hlen]; simp; omega), hl, List.nil_append]
theorem rtrim_ev (l : List Int) (h : U l) (hb : l.length ≤ 1073741824) : ∃ K, ∀ k, K ≤ k → pelorusref01_Trim.f k l = some (lim (val l)) :=
  rtrim_l0 l h hb l.length (Nat.le_refl _) (by rw [List.take_length])
theorem rcmp_l0 (a b : List Int) (ha : U a) (hb : U b) (hl : a.length = b.length) (hc : a.length ≤ 1073741824) (n : Nat) :
    n ≤ a.length → a.drop n = b.drop n → ∃ K, ∀ k, K ≤ k → pelorusref01_Cmp.l0 k a b ((n : Int) - 1) = some (sgn (val a - val b)) := by
  induction n with
  | zero =>
    intro hi he
    refine ⟨1, fun k hk => ?_⟩
    obtain ⟨k, rfl⟩ : ∃ m, k = m + 1 := ⟨k - 1, by omega⟩
    simp only [pelorusref01_Cmp.l0]
    rw [if_neg (by omega)]
    rw [List.drop_zero, List.drop_zero] at he
    rw [he, Int.sub_self, sgn_zero]
  | succ n ih =>
    intro hi he
    have ht : ((n + 1 : Nat) : Int) - 1 = (n : Int) := by omega
    rcases Int.lt_trichotomy (a.getD n 0) (b.getD n 0) with hlt | heq | hgt
    · refine ⟨1, fun k hk => ?_⟩
      obtain ⟨k, rfl⟩ : ∃ m, k = m + 1 := ⟨k - 1, by omega⟩
      have := val_lt_top ha hb (k := n) (by omega) (by omega) he hlt
      simp only [pelorusref01_Cmp.l0, ht, rd_eq, Int.toNat_natCast]
      rw [if_pos (by omega), if_pos (by omega), if_pos (by omega), if_pos (by omega), if_pos hlt, sgn_neg (by omega)]
    · obtain ⟨K, hK⟩ := ih (by omega) (by rw [drop_eq (by omega), drop_eq (l := b) (by omega), heq, he])
      refine ⟨K + 1, fun k hk => ?_⟩
      obtain ⟨k, rfl⟩ : ∃ m, k = m + 1 := ⟨k - 1, by omega⟩
      simp only [pelorusref01_Cmp.l0, ht, rd_eq, Int.toNat_natCast, w64 (show -9223372036854775808 ≤ (n : Int) - 1 by omega) (show (n : Int) - 1 < 9223372036854775808 by omega)]
      rw [if_pos (by omega), if_pos (by omega), if_pos (by omega), if_pos (by omega), if_neg (by omega), if_neg (by omega)]
      exact hK k (by omega)
    · refine ⟨1, fun k hk => ?_⟩
      obtain ⟨k, rfl⟩ : ∃ m, k = m + 1 := ⟨k - 1, by omega⟩
      have := val_lt_top hb ha (k := n) (by omega) (by omega) he.symm hgt
      simp only [pelorusref01_Cmp.l0, ht, rd_eq, Int.toNat_natCast]
      rw [if_pos (by omega), if_pos (by omega), if_pos (by omega), if_pos (by omega), if_neg (by omega), if_pos (by omega), sgn_pos (by omega)]
theorem rcmp_ev (a b : List Int) (ha : U a) (hb : U b) (hla : a.length ≤ 1073741824) (hlb : b.length ≤ 1073741824) : ∃ K, ∀ k, K ≤ k → pelorusref01_Cmp.f k a b = some (sgn (val a - val b)) := by
  obtain ⟨K1, h1⟩ := rtrim_ev a ha hla
  obtain ⟨K2, h2⟩ := rtrim_ev b hb hlb
  have na := val_nonneg ha
  have nb := val_nonneg hb
  have la := lim_len na a.length (val_lt ha)
  have lb := lim_len nb b.length (val_lt hb)
  rcases Nat.lt_trichotomy (lim (val a)).length (lim (val b)).length with hlt | heq | hgt
  · refine ⟨K1 + K2, fun k hk => ?_⟩
    have := lim_len_lt na hlt
    unfold pelorusref01_Cmp.f
    rw [h1 k (by omega), Option.bind_some, h2 k (by omega), Option.bind_some, if_neg (by omega), if_pos (by omega), sgn_neg (by omega)]
  · obtain ⟨K3, h3⟩ := rcmp_l0 (lim (val a)) (lim (val b)) (U_lim na) (U_lim nb) heq (by omega) _ (Nat.le_refl _) (by rw [List.drop_length, heq, List.drop_length])
    refine ⟨K1 + K2 + K3, fun k hk => ?_⟩
    have h4 := h3 k (by omega)
    rw [val_lim na, val_lim nb] at h4
    unfold pelorusref01_Cmp.f
    rw [h1 k (by omega), Option.bind_some, h2 k (by omega), Option.bind_some, if_pos (by omega), w64 (by omega) (by omega)]
    exact h4
  · refine ⟨K1 + K2, fun k hk => ?_⟩
    have := lim_len_lt nb hgt
    unfold pelorusref01_Cmp.f
    rw [h1 k (by omega), Option.bind_some, h2 k (by omega), Option.bind_some, if_neg (by omega), if_neg (by omega), sgn_pos (by omega)]
theorem rat (l : List Int) (h : U l) (i : Nat) : pelorusref01_at.f l (i : Int) = some (l.getD i 0) := by
  have hu := U_getD h i
  unfold pelorusref01_at.f
  by_cases hi : i < l.length
  · rw [if_neg (by omega), if_pos (by omega), if_pos (by omega), rd_eq, Int.toNat_natCast, u64w hu.1 (by omega)]
  · rw [if_pos (by omega), getD_out l i (by omega)]
theorem snoc_val (l : List Int) (x : Int) : val (l ++ [x]) = val l + pw l.length * x := by rw [val_append]; simp
theorem U_snoc {l : List Int} (h : U l) {x : Int} (h0 : 0 ≤ x) (h1 : x < 4294967296) : U (l ++ [x]) := U_append.2 ⟨h, U_single h0 h1⟩
theorem radd_l0 (a b : List Int) (ha : U a) (hb : U b) (hla : a.length ≤ 1073741823) (hlb : b.length ≤ 1073741823) (d : Nat) :
    ∀ (i : Nat) (o : List Int) (c : Int), max a.length b.length + 1 - i = d → i ≤ max a.length b.length + 1 → o.length = i → U o → 0 ≤ c ∧ c ≤ 1 → (i = max a.length b.length + 1 → c = 0) → val o + pw i * c = val (a.take i) + val (b.take i) →
      ∃ K, ∀ k, K ≤ k → pelorusref01_Add.l0 k a b o c (i : Int) = some (lim (val a + val b)) := by
  induction d with
  | zero =>
    intro i o c hd hi hol ho hc hz he
    have hc0 := hz (by omega)
    subst hc0
    obtain ⟨K, hK⟩ := rtrim_ev o ho (by omega)
    rw [take_out a i (by omega), take_out b i (by omega), Int.mul_zero, Int.add_zero] at he
    rw [he] at hK
    refine ⟨K + 2, fun k hk => ?_⟩
    obtain ⟨k, rfl⟩ : ∃ m, k = m + 1 + 1 := ⟨k - 2, by omega⟩
    simp only [pelorusref01_Add.l0, pelorusref01_Add.j1]
    rw [if_neg (by omega), if_neg (by omega), decide_eq_false (by omega), if_neg (by simp), hK k (by omega), Option.bind_some]
  | succ d ih =>
    intro i o c hd hi hol ho hc hz he
    have hai := U_getD ha i
    have hbi := U_getD hb i
    obtain ⟨n, hn⟩ : ∃ n, n = a.getD i 0 + b.getD i 0 + c := ⟨_, rfl⟩
    have hround : ∀ k, pelorusref01_Add.j1 (k + 1) a b o c (i : Int) true = pelorusref01_Add.l0 k a b (o ++ [n % 4294967296]) (n / 4294967296) ((i + 1 : Nat) : Int) := by
      intro k
      simp only [pelorusref01_Add.j1]
      rw [if_pos trivial, rat a ha, Option.bind_some, rat b hb, Option.bind_some, if_pos (by omega), u64w (x := a.getD i 0 + b.getD i 0) (by omega) (by omega), ← hn, u64w (x := n) (by omega) (by omega), Int.tmod_eq_emod_of_nonneg (by omega), Int.tdiv_eq_ediv_of_nonneg (by omega), u64w (x := n / 4294967296) (by omega) (by omega), w64_succ (by omega), show n % 4294967296 % 4294967296 = n % 4294967296 by omega]
    by_cases hgo : i < a.length ∨ i < b.length ∨ 0 < c
    · have key : val (o ++ [n % 4294967296]) + pw (i + 1) * (n / 4294967296) = val (a.take (i + 1)) + val (b.take (i + 1)) := by
        rw [snoc_val, hol, val_take_succ', val_take_succ', pw_succ]
        exact step_add (by rw [← hn]; exact Int.emod_add_mul_ediv n 4294967296) he
      have hlast : i + 1 = max a.length b.length + 1 → n / 4294967296 = 0 := by
        intro hq
        have e1 := getD_out a i (by omega)
        have e2 := getD_out b i (by omega)
        omega
      obtain ⟨K, hK⟩ := ih (i + 1) (o ++ [n % 4294967296]) (n / 4294967296) (by omega) (by omega) (by rw [List.length_append]; simp; omega) (U_snoc ho (by omega) (by omega)) (by omega) hlast key
      refine ⟨K + 2, fun k hk => ?_⟩
      obtain ⟨k, rfl⟩ : ∃ m, k = m + 1 + 1 := ⟨k - 2, by omega⟩
      simp only [pelorusref01_Add.l0]
      by_cases g1 : i < a.length
      · rw [if_pos (by omega), hround]
        exact hK k (by omega)
      · rw [if_neg (by omega)]
        by_cases g2 : i < b.length
        · rw [if_pos (by omega), hround]
          exact hK k (by omega)
        · rw [if_neg (by omega), decide_eq_true (by omega), hround]
          exact hK k (by omega)
    · have hc0 : c = 0 := by omega
      subst hc0
      obtain ⟨K, hK⟩ := rtrim_ev o ho (by omega)
      rw [take_out a i (by omega), take_out b i (by omega), Int.mul_zero, Int.add_zero] at he
      rw [he] at hK
      refine ⟨K + 2, fun k hk => ?_⟩
      obtain ⟨k, rfl⟩ : ∃ m, k = m + 1 + 1 := ⟨k - 2, by omega⟩
      simp only [pelorusref01_Add.l0, pelorusref01_Add.j1]
      rw [if_neg (by omega), if_neg (by omega), decide_eq_false (by omega), if_neg (by simp), hK k (by omega), Option.bind_some]
theorem radd_ev (a b : List Int) (ha : U a) (hb : U b) (hla : a.length ≤ 1073741823) (hlb : b.length ≤ 1073741823) : ∃ K, ∀ k, K ≤ k → pelorusref01_Add.f k a b = some (lim (val a + val b)) :=
  radd_l0 a b ha hb hla hlb _ 0 [] 0 rfl (by omega) rfl U_nil (by omega) (fun h => by omega) (by simp)
theorem rsub_l0 (a b : List Int) (ha : U a) (hb : U b) (hla : a.length ≤ 1073741823) (hv : val b ≤ val a) (d : Nat) :
    ∀ (i : Nat) (o : List Int) (c : Int), a.length - i = d → i ≤ a.length → o.length = i → U o → 0 ≤ c ∧ c ≤ 1 → val o - pw i * c = val (a.take i) - val (b.take i) →
      ∃ K, ∀ k, K ≤ k → pelorusref01_Sub.l0 k a b o c (i : Int) = some (lim (val a - val b), true) := by
  induction d with
  | zero =>
    intro i o c hd hi hol ho hc he
    obtain rfl : i = a.length := by omega
    obtain ⟨K, hK⟩ := rtrim_ev o ho (by omega)
    have hbl : val (b.take a.length) = val b := val_take_of_lt hb (Int.lt_of_le_of_lt hv (val_lt ha))
    rw [List.take_length, hbl] at he
    have hlt := val_lt ho
    have hp := pw_pos o.length
    have hc0 : c = 0 := by
      rcases (show c = 0 ∨ c = 1 by omega) with h | h
      · exact h
      · subst h
        rw [hol] at hlt hp
        omega
    subst hc0
    have hvo : val o = val a - val b := by omega
    rw [hvo] at hK
    refine ⟨K + 1, fun k hk => ?_⟩
    obtain ⟨k, rfl⟩ : ∃ m, k = m + 1 := ⟨k - 1, by omega⟩
    simp only [pelorusref01_Sub.l0]
    rw [if_neg (by omega), hK k (by omega), Option.bind_some]
  | succ d ih =>
    intro i o c hd hi hol ho hc he
    have hai := U_getD ha i
    have hbi := U_getD hb i
    obtain ⟨n, hn⟩ : ∃ n, n = 4294967296 + a.getD i 0 - b.getD i 0 - c := ⟨_, rfl⟩
    have key : val (o ++ [n % 4294967296]) - pw (i + 1) * (1 - n / 4294967296) = val (a.take (i + 1)) - val (b.take (i + 1)) := by
      rw [snoc_val, hol, val_take_succ', val_take_succ', pw_succ]
      have := step_sub (P := pw i) (A := val o) (q := n / 4294967296 - 1) (r := n % 4294967296) (x := a.getD i 0) (y := b.getD i 0) (c := c) (by omega) he
      rw [show -(n / 4294967296 - 1) = 1 - n / 4294967296 by omega] at this
      exact this
    obtain ⟨K, hK⟩ := ih (i + 1) (o ++ [n % 4294967296]) (1 - n / 4294967296) (by omega) (by omega) (by rw [List.length_append]; simp; omega) (U_snoc ho (by omega) (by omega)) (by omega) key
    refine ⟨K + 1, fun k hk => ?_⟩
    obtain ⟨k, rfl⟩ : ∃ m, k = m + 1 := ⟨k - 1, by omega⟩
    simp only [pelorusref01_Sub.l0]
    rw [if_pos (by omega), rat a ha, Option.bind_some, rat b hb, Option.bind_some, if_pos (by omega), u64w (x := 4294967296 + a.getD i 0) (by omega) (by omega), u64w (x := 4294967296 + a.getD i 0 - b.getD i 0) (by omega) (by omega), ← hn, u64w (x := n) (by omega) (by omega), Int.tmod_eq_emod_of_nonneg (by omega), Int.tdiv_eq_ediv_of_nonneg (by omega), u64w (x := n / 4294967296) (by omega) (by omega), u64w (x := 1 - n / 4294967296) (by omega) (by omega), w64_succ (by omega), show n % 4294967296 % 4294967296 = n % 4294967296 by omega]
    exact hK k (by omega)
theorem rsub_ev (a b : List Int) (ha : U a) (hb : U b) (hla : a.length ≤ 1073741823) (hlb : b.length ≤ 1073741823) : ∃ K, ∀ k, K ≤ k → pelorusref01_Sub.f k a b = some (if val a < val b then ([], false) else (lim (val a - val b), true)) := by
  obtain ⟨K1, h1⟩ := rcmp_ev a b ha hb (by omega) (by omega)
  by_cases hlt : val a < val b
  · refine ⟨K1, fun k hk => ?_⟩
    unfold pelorusref01_Sub.f
    rw [h1 k hk, Option.bind_some, sgn_neg (by omega), if_pos (by omega), if_pos hlt]
  · obtain ⟨K2, h2⟩ := rsub_l0 a b ha hb hla (by omega) _ 0 [] 0 rfl (by omega) rfl U_nil (by omega) (by simp)
    have hs : ¬ sgn (val a - val b) < 0 := by unfold sgn; split <;> (try split) <;> omega
    refine ⟨K1 + K2, fun k hk => ?_⟩
    unfold pelorusref01_Sub.f
    rw [h1 k (by omega), Option.bind_some, if_neg hs, if_neg hlt]
    exact h2 k (by omega)
theorem rsame_l0 (a : List Int) (hl : a.length ≤ 4611686018427387903) (d : Nat) : ∀ i : Nat, a.length - i = d → i ≤ a.length → ∃ K, ∀ k, K ≤ k → pelorusref01_Same.l0 k a a (i : Int) = some true := by
  induction d with
  | zero =>
    intro i hd hi
    refine ⟨1, fun k hk => ?_⟩
    obtain ⟨k, rfl⟩ : ∃ m, k = m + 1 := ⟨k - 1, by omega⟩
    simp only [pelorusref01_Same.l0]
    rw [if_neg (by omega)]
  | succ d ih =>
    intro i hd hi
    obtain ⟨K, hK⟩ := ih (i + 1) (by omega) (by omega)
    refine ⟨K + 1, fun k hk => ?_⟩
    obtain ⟨k, rfl⟩ : ∃ m, k = m + 1 := ⟨k - 1, by omega⟩
    simp only [pelorusref01_Same.l0, w64_succ (show i < 4611686018427387904 by omega)]
    rw [if_pos (by omega), if_pos (by omega), if_pos (by omega), if_pos trivial]
    exact hK k (by omega)
theorem rsame_ev (a : List Int) (hl : a.length ≤ 4611686018427387903) : ∃ K, ∀ k, K ≤ k → pelorusref01_Same.f k a a = some true := by
  obtain ⟨K, hK⟩ := rsame_l0 a hl _ 0 rfl (by omega)
  refine ⟨K, fun k hk => ?_⟩
  unfold pelorusref01_Same.f
  rw [if_pos rfl]
  exact hK k hk
end Go.Proofs.YtkemnoejpbknhaaDoor.T

namespace Go.Proofs.YtkemnoejpbknhaaDoor.T
set_option linter.unusedVariables false
set_option linter.unusedSimpArgs false
open Go.RowKit Go.Proofs.YtkemnoejpbknhaaDoorW.PrintWords Go.Proofs.YtkemnoejpbknhaaDoorW.PrintMore Go.Proofs.YtkemnoejpbknhaaDoor.PA

/-! products -/
theorem step_row {V P S x y c r q : Int} (e : r + 4294967296 * q = x * y + c) (h : V + P * c = S * y) : V + P * r + 4294967296 * P * q = (S + P * x) * y := by
  have h1 : P * (r + 4294967296 * q) = P * (x * y + c) := by rw [e]
  grind
theorem rmul_l1 (a b : List Int) (ha : U a) (i : Nat) (hi : i < b.length) (hb : U b) (hla : a.length ≤ 1073741822) (o : List Int) (d : Nat) :
    ∀ (j : Nat) (row : List Int) (c : Int), a.length - j = d → j ≤ a.length → row.length = j → U row → 0 ≤ c ∧ c < 4294967296 → val row + pw j * c = val (a.take j) * b.getD i 0 →
      ∃ row', U row' ∧ row'.length = a.length + 1 ∧ val row' = val a * b.getD i 0 ∧ ∀ k, pelorusref01_Mul.l1 (k + d + 1) a b o (i : Int) row c (j : Int) = (pelorusref01_Add.f k o row').bind fun t => pelorusref01_Mul.l0 k a b t (wrap64 ((i : Int) - 1)) := by
  induction d with
  | zero =>
    intro j row c hd hj hl hr hc he
    obtain rfl : j = a.length := by omega
    refine ⟨row ++ [c], U_snoc hr hc.1 hc.2, by simp [hl], by rw [snoc_val, hl, he, List.take_length], fun k => ?_⟩
    simp only [pelorusref01_Mul.l1]
    rw [if_neg (by omega), if_pos (by omega), Int.emod_eq_of_lt hc.1 hc.2]
  | succ d ih =>
    intro j row c hd hj hl hr hc he
    have hx := U_getD ha j
    have hy := U_getD hb i
    have hm := mul_bound hx hy
    obtain ⟨n, hn⟩ : ∃ n, n = a.getD j 0 * b.getD i 0 + c := ⟨_, rfl⟩
    obtain ⟨row', h1, h2, h3, h4⟩ := ih (j + 1) (row ++ [n % 4294967296]) (n / 4294967296) (by omega) (by omega) (by simp [hl]) (U_snoc hr (by omega) (by omega)) (by omega)
      (by
        rw [snoc_val, hl, val_take_succ', pw_succ]
        exact step_row (by rw [← hn]; exact Int.emod_add_mul_ediv n 4294967296) he)
    refine ⟨row', h1, h2, h3, fun k => ?_⟩
    rw [← h4 k]
    simp only [pelorusref01_Mul.l1, rd_eq, Int.toNat_natCast, u64w hx.1 (show a.getD j 0 < 18446744073709551616 by omega), u64w hy.1 (show b.getD i 0 < 18446744073709551616 by omega), u64w hm.1 (show a.getD j 0 * b.getD i 0 < 18446744073709551616 by omega), ← hn, u64w (show 0 ≤ n by omega) (show n < 18446744073709551616 by omega), Int.tmod_eq_emod_of_nonneg (show 0 ≤ n by omega), Int.tdiv_eq_ediv_of_nonneg (show 0 ≤ n by omega), u64w (show 0 ≤ n / 4294967296 by omega) (show n / 4294967296 < 18446744073709551616 by omega), show n % 4294967296 % 4294967296 = n % 4294967296 by omega, w64_succ (show j < 4611686018427387904 by omega)]
    rw [if_pos (by omega), if_pos (by omega), if_pos (by omega), if_pos (by omega), if_pos (by omega)]
    rfl
theorem rmul_l0 (a b : List Int) (ha : U a) (hb : U b) (hl : a.length + b.length ≤ 1073741820) (n : Nat) :
    ∀ (o : List Int), n ≤ b.length → U o → o.length ≤ a.length + (b.length - n) + 1 → val o = val a * val (b.drop n) →
      ∃ K, ∀ k, K ≤ k → pelorusref01_Mul.l0 k a b o ((n : Int) - 1) = some (lim (val a * val b)) := by
  induction n with
  | zero =>
    intro o hn ho hol hv
    obtain ⟨K, hK⟩ := rtrim_ev o ho (by omega)
    rw [hv, List.drop_zero] at hK
    refine ⟨K + 1, fun k hk => ?_⟩
    obtain ⟨k, rfl⟩ : ∃ m, k = m + 1 := ⟨k - 1, by omega⟩
    simp only [pelorusref01_Mul.l0]
    rw [if_neg (by omega), hK k (by omega), Option.bind_some]
  | succ n ih =>
    intro o hn ho hol hv
    have hon : U ([0] ++ o) := U_append.2 ⟨U_single (by omega) (by omega), ho⟩
    have hov : val ([0] ++ o) = 4294967296 * val o := by simp
    obtain ⟨row, h1, h2, h3, h4⟩ := rmul_l1 a b ha n (by omega) hb (by omega) ([0] ++ o) _ 0 [] 0 rfl (by omega) rfl U_nil (by omega) (by simp)
    obtain ⟨K1, h5⟩ := radd_ev ([0] ++ o) row hon h1 (by simp; omega) (by omega)
    have hsum : val ([0] ++ o) + val row = val a * val (b.drop n) := by
      rw [hov, h3, hv, val_drop (l := b) (i := n) (by omega)]
      grind
    rw [hsum] at h5
    have na := val_nonneg ha
    have nd := val_nonneg (U_drop hb n)
    have hp0 := Int.mul_nonneg na nd
    have hlen : (lim (val a * val (b.drop n))).length ≤ a.length + (b.length - n) := by
      refine lim_len hp0 _ ?_
      have l1 := val_lt ha
      have l2 := val_lt (U_drop hb n)
      rw [List.length_drop] at l2
      rw [pw_add]
      have hpa := pw_pos a.length
      have e1 := Int.mul_le_mul_of_nonneg_right (show val a ≤ pw a.length by omega) nd
      have e2 := Int.mul_lt_mul_of_pos_left l2 hpa
      omega
    obtain ⟨K2, h6⟩ := ih (lim (val a * val (b.drop n))) (by omega) (U_lim hp0) (by omega) (by rw [val_lim hp0])
    refine ⟨K1 + K2 + a.length + 2, fun k hk => ?_⟩
    obtain ⟨k, rfl⟩ : ∃ m, k = m + (a.length - 0) + 1 + 1 := ⟨k - a.length - 2, by omega⟩
    have e : ((n + 1 : Nat) : Int) - 1 = (n : Int) := by omega
    simp only [pelorusref01_Mul.l0, Option.bind_some]
    rw [if_pos (by omega), if_pos (by simp; omega), e]
    rw [show pelorusref01_Mul.l1 (k + (a.length - 0) + 1) a b ([0] ++ o) (n : Int) [] 0 0 = _ from h4 k, h5 k (by omega), Option.bind_some, w64 (by omega) (by omega)]
    exact h6 k (by omega)
theorem rmul_ev (a b : List Int) (ha : U a) (hb : U b) (hl : a.length + b.length ≤ 1073741820) : ∃ K, ∀ k, K ≤ k → pelorusref01_Mul.f k a b = some (lim (val a * val b)) := by
  obtain ⟨K, hK⟩ := rmul_l0 a b ha hb hl b.length [] (Nat.le_refl _) U_nil (by simp) (by rw [List.drop_length]; simp)
  refine ⟨K, fun k hk => ?_⟩
  unfold pelorusref01_Mul.f
  rw [w64 (by omega) (by omega)]
  exact hK k hk

/-! bits -/
theorem rlen_l0 (m : Nat) : ∀ (x n : Int), x = (m : Int) → x < 4294967296 → 0 ≤ n → n + bl x ≤ 4611686018427387904 → ∃ K, ∀ k, K ≤ k → pelorusref01_Len.l0 k n x = some (n + bl x) := by
  induction m using Nat.strongRecOn with
  | _ m ih =>
    intro x n hx hx1 hn hn1
    by_cases h0 : x = 0
    · refine ⟨1, fun k hk => ?_⟩
      obtain ⟨k, rfl⟩ : ∃ m, k = m + 1 := ⟨k - 1, by omega⟩
      simp only [pelorusref01_Len.l0]
      rw [if_neg (by omega), h0, bl_zero, Int.add_zero]
    · have hb : bl x = 1 + bl (x / 2) := by
        by_cases h1 : x = 1
        · subst h1; rfl
        · have := bl_shift (x := x) 1 (by omega)
          exact this
      have hb0 := bl_nonneg (x / 2)
      obtain ⟨K, hK⟩ := ih (x / 2).toNat (by omega) (x / 2) (n + 1) (by omega) (by omega) (by omega) (by omega)
      refine ⟨K + 1, fun k hk => ?_⟩
      obtain ⟨k, rfl⟩ : ∃ m, k = m + 1 := ⟨k - 1, by omega⟩
      simp only [pelorusref01_Len.l0]
      rw [if_pos (by omega), w64 (by omega) (by omega), Int.tdiv_eq_ediv_of_nonneg (by omega), Int.emod_eq_of_lt (by omega) (by omega), hK k (by omega), hb, Int.add_assoc]
theorem rlen_ev (l : List Int) (h : U l) (hb : l.length ≤ 1073741824) : ∃ K, ∀ k, K ≤ k → pelorusref01_Len.f k l = some (bl (val l)) := by
  obtain ⟨K, hK⟩ := rtrim_ev l h hb
  have hn := val_nonneg h
  have hl := lim_len hn l.length (val_lt h)
  by_cases h0 : val l = 0
  · refine ⟨K, fun k hk => ?_⟩
    unfold pelorusref01_Len.f
    rw [hK k hk, Option.bind_some, h0, lim_zero, if_pos (by simp)]
    rfl
  · have hpos : 0 < val l := by omega
    have h1 : 0 < (lim (val l)).length := by
      by_cases hq : (lim (val l)).length = 0
      · exact absurd ((lim_nil_iff hn).1 hq) h0
      · omega
    have hu := U_getD (U_lim hn) ((lim (val l)).length - 1)
    have hlast := lim_last hpos
    have e1 := val_top hpos
    have e2 := bl_shift (x := val l) (32 * ((lim (val l)).length - 1)) (by rw [← p2_limb, e1]; omega)
    rw [← p2_limb, e1] at e2
    have e3 := bl_le (n := (lim (val l)).getD ((lim (val l)).length - 1) 0) (m := 32) hu.2
    have e4 := bl_nonneg ((lim (val l)).getD ((lim (val l)).length - 1) 0)
    obtain ⟨K2, h2⟩ := rlen_l0 ((lim (val l)).getD ((lim (val l)).length - 1) 0).toNat _ (32 * (((lim (val l)).length - 1 : Nat) : Int)) (by omega) hu.2 (by omega) (by omega)
    refine ⟨K + K2, fun k hk => ?_⟩
    unfold pelorusref01_Len.f
    rw [hK k (by omega), Option.bind_some, if_neg (by omega)]
    simp only [w64_pred h1 (show (lim (val l)).length < 9223372036854775808 by omega), rd_eq, Int.toNat_natCast]
    rw [if_pos (by omega), if_pos (by omega), w64 (by omega) (by omega), h2 k (by omega), e2]
    congr 1
theorem shl1 {s : Nat} (hs : s < 32) : shl .u32 1 (s : Int) = 2 ^ s := by
  unfold shl
  have hmn : min (s : Int).toNat IntKind.u32.bits = s := by
    have : IntKind.u32.bits = 32 := rfl
    rw [this, Int.toNat_natCast]
    omega
  have h1 := p2_pos s
  have h2 := p2_mono (show s ≤ 31 by omega)
  have e : (2 : Int) ^ 31 = 2147483648 := rfl
  rw [hmn, Int.one_mul, IntKind.wrap_u32, Int.emod_eq_of_lt (by omega) (by omega)]
theorem p2_31 {s : Nat} (hs : s < 32) : 0 < (2 : Int) ^ s ∧ (2 : Int) ^ s ≤ 2147483648 := by
  have h2 := p2_mono (show s ≤ 31 by omega)
  have e : (2 : Int) ^ 31 = 2147483648 := rfl
  exact ⟨p2_pos s, by omega⟩
theorem rshl_ev (a : List Int) (n : Int) (ha : U a) (hl : a.length ≤ 268435456) : ∃ K, ∀ k, K ≤ k → pelorusref01_Shl.f k a n = some (lim (shlv (val a) n)) := by
  unfold shlv pelorusref01_Shl.f
  by_cases c1 : n < 1
  · obtain ⟨K, hK⟩ := rtrim_ev a ha (by omega)
    refine ⟨K, fun k hk => ?_⟩
    rw [if_pos c1, if_pos c1, hK k hk, Option.bind_some]
  · by_cases c2 : n > 16777216
    · exact ⟨0, fun k _ => by rw [if_neg c1, if_neg c1, if_pos c2, if_pos c2, lim_zero]⟩
    · obtain ⟨m, rfl⟩ : ∃ m : Nat, n = m := ⟨n.toNat, by omega⟩
      have hp := p2_31 (s := m % 32) (by omega)
      obtain ⟨K, hK⟩ := rmul_ev (List.replicate (m / 32) 0 ++ a) [2 ^ (m % 32)] (U_append.2 ⟨U_replicate _, ha⟩) (U_single (by omega) (by omega)) (by simp; omega)
      have hv : val (List.replicate (m / 32) 0 ++ a) * val [2 ^ (m % 32)] = val a * 2 ^ m := by
        rw [val_append, val_replicate, List.length_replicate, p2_limb]
        simp only [val_cons, val_nil, Int.mul_zero, Int.add_zero, Int.zero_add]
        have e : (2 : Int) ^ m = 2 ^ (32 * (m / 32)) * 2 ^ (m % 32) := by rw [← p2_add]; congr 1; omega
        rw [e]
        grind
      rw [hv] at hK
      refine ⟨K, fun k hk => ?_⟩
      rw [if_neg c1, if_neg c1, if_neg c2, if_neg c2]
      simp only [Int.tdiv_eq_ediv_of_nonneg (show (0 : Int) ≤ (m : Int) by omega), Int.tmod_eq_emod_of_nonneg (show (0 : Int) ≤ (m : Int) by omega), show (m : Int) / 32 = ((m / 32 : Nat) : Int) by omega, show (m : Int) % 32 = ((m % 32 : Nat) : Int) by omega, w64_nat (show m / 32 < 9223372036854775808 by omega), u64w (show 0 ≤ ((m % 32 : Nat) : Int) by omega) (show ((m % 32 : Nat) : Int) < 18446744073709551616 by omega), Int.toNat_natCast, Option.bind_some, shl1 (show m % 32 < 32 by omega)]
      rw [if_pos (by omega), if_pos (by omega), if_pos (by rw [List.length_replicate]; omega), if_pos (by omega), hK k hk, Option.bind_some]
theorem val_div' {l : List Int} (h : U l) (i : Nat) : val l / pw i = val (l.drop i) := by
  by_cases hi : i ≤ l.length
  · exact val_div h hi
  · have h1 := val_lt h
    have h2 := pw_mono (show l.length ≤ i by omega)
    rw [List.drop_of_length_le (by omega), val_nil, Int.ediv_eq_zero_of_lt (val_nonneg h) (by omega)]
theorem bit_eq {l : List Int} (h : U l) (i : Nat) : (val l / 2 ^ i) % 2 = (l.getD (i / 32) 0 / 2 ^ (i % 32)) % 2 := by
  have hp := p2_pos (i % 32)
  have e1 : val l / 2 ^ i = val (l.drop (i / 32)) / 2 ^ (i % 32) := by
    rw [← val_div' h, p2_limb, Int.ediv_ediv_of_nonneg (by have := p2_pos (32 * (i / 32)); omega), ← p2_add, show 32 * (i / 32) + i % 32 = i by omega]
  have e2 : (4294967296 : Int) = 2 ^ (i % 32) * (2 * 2 ^ (31 - i % 32)) := by
    rw [← p2_succ, ← p2_add, show i % 32 + (31 - i % 32 + 1) = 32 by omega]
    rfl
  rw [e1, val_drop', e2, Int.mul_assoc, Int.add_mul_ediv_left _ _ (by omega), Int.mul_assoc, Int.add_mul_emod_self_left]
theorem rbit_eq (l : List Int) (h : U l) (i : Nat) (hi : i < 4611686018427387904) : pelorusref01_bit.f l (i : Int) = some ((val l / 2 ^ i) % 2 == 1) := by
  have hu := U_getD h (i / 32)
  have hp := p2_pos (i % 32)
  have hd := Int.ediv_nonneg hu.1 (show (0 : Int) ≤ 2 ^ (i % 32) by omega)
  unfold pelorusref01_bit.f
  simp only [Int.tdiv_eq_ediv_of_nonneg (show (0 : Int) ≤ (i : Int) by omega), Int.tmod_eq_emod_of_nonneg (show (0 : Int) ≤ (i : Int) by omega), show (i : Int) / 32 = ((i / 32 : Nat) : Int) by omega, show (i : Int) % 32 = ((i % 32 : Nat) : Int) by omega, w64_nat (show i / 32 < 9223372036854775808 by omega), u64w (show 0 ≤ ((i % 32 : Nat) : Int) by omega) (show ((i % 32 : Nat) : Int) < 18446744073709551616 by omega)]
  rw [rat l h, Option.bind_some, if_pos (by omega), shr_eq (by omega), Int.tmod_eq_emod_of_nonneg hd, bit_eq h]
theorem rset_l0 (i : Nat) (hi : i < 4611686018427387904) (d : Nat) : ∀ (l : List Int), U l → i / 32 + 1 - l.length = d → l.length ≤ 1073741824 → i / 32 < 1073741824 → (val l / 2 ^ i) % 2 = 0 →
    ∃ r, (∃ K, ∀ k, K ≤ k → pelorusref01_set.l0 k (i : Int) l = some r) ∧ U r ∧ val r = val l + 2 ^ i ∧ r.length = max l.length (i / 32 + 1) := by
  induction d with
  | zero =>
    intro l hu hd hl hi2 hbit
    have hp := p2_31 (s := i % 32) (by omega)
    have hx := U_getD hu (i / 32)
    rw [bit_eq hu] at hbit
    have hsum : l.getD (i / 32) 0 + 2 ^ (i % 32) < 4294967296 := by
      have e2 : (4294967296 : Int) = 2 ^ (i % 32) * (2 * 2 ^ (31 - i % 32)) := by
        rw [← p2_succ, ← p2_add, show i % 32 + (31 - i % 32 + 1) = 32 by omega]
        rfl
      have e3 := Int.mul_ediv_add_emod (l.getD (i / 32) 0) (2 ^ (i % 32))
      have e4 := Int.emod_lt_of_pos (l.getD (i / 32) 0) hp.1
      have e5 := Int.emod_nonneg (l.getD (i / 32) 0) (show (2 : Int) ^ (i % 32) ≠ 0 by omega)
      have h1 : 2 ^ (i % 32) * (l.getD (i / 32) 0 / 2 ^ (i % 32)) < 2 ^ (i % 32) * (2 * 2 ^ (31 - i % 32)) := by omega
      have h2 := Int.lt_of_mul_lt_mul_left h1 (by omega)
      have h3 := Int.mul_le_mul_of_nonneg_left (show l.getD (i / 32) 0 / 2 ^ (i % 32) + 2 ≤ 2 * 2 ^ (31 - i % 32) by omega) (show (0 : Int) ≤ 2 ^ (i % 32) by omega)
      rw [Int.mul_add] at h3
      omega
    refine ⟨l.set (i / 32) (l.getD (i / 32) 0 + 2 ^ (i % 32)), ⟨1, fun k hk => ?_⟩, U_set hu _ (by omega) hsum, ?_, by simp; omega⟩
    · obtain ⟨k, rfl⟩ : ∃ m, k = m + 1 := ⟨k - 1, by omega⟩
      simp only [pelorusref01_set.l0, Int.tdiv_eq_ediv_of_nonneg (show (0 : Int) ≤ (i : Int) by omega), Int.tmod_eq_emod_of_nonneg (show (0 : Int) ≤ (i : Int) by omega), show (i : Int) / 32 = ((i / 32 : Nat) : Int) by omega, show (i : Int) % 32 = ((i % 32 : Nat) : Int) by omega, w64_nat (show i / 32 < 9223372036854775808 by omega), u64w (show 0 ≤ ((i % 32 : Nat) : Int) by omega) (show ((i % 32 : Nat) : Int) < 18446744073709551616 by omega), Int.toNat_natCast, rd_eq, shl1 (show i % 32 < 32 by omega)]
      rw [if_neg (by omega), if_pos (by omega), if_pos (by omega), if_pos (by omega), Int.emod_eq_of_lt (by omega) hsum]
    · rw [val_set (by omega), show l.getD (i / 32) 0 + 2 ^ (i % 32) - l.getD (i / 32) 0 = 2 ^ (i % 32) by omega, p2_limb, ← p2_add, show 32 * (i / 32) + i % 32 = i by omega]
  | succ d ih =>
    intro l hu hd hl hi2 hbit
    have hu2 := U_snoc hu (show (0 : Int) ≤ 0 by omega) (show (0 : Int) < 4294967296 by omega)
    have hv2 : val (l ++ [0]) = val l := by rw [snoc_val, Int.mul_zero, Int.add_zero]
    obtain ⟨r, ⟨K, hK⟩, h1, h2, h3⟩ := ih (l ++ [0]) hu2 (by simp; omega) (by simp; omega) hi2 (by rw [hv2]; exact hbit)
    refine ⟨r, ⟨K + 1, fun k hk => ?_⟩, h1, by rw [h2, hv2], by rw [h3]; simp; omega⟩
    obtain ⟨k, rfl⟩ : ∃ m, k = m + 1 := ⟨k - 1, by omega⟩
    simp only [pelorusref01_set.l0, Int.tdiv_eq_ediv_of_nonneg (show (0 : Int) ≤ (i : Int) by omega), show (i : Int) / 32 = ((i / 32 : Nat) : Int) by omega, w64_nat (show i / 32 < 9223372036854775808 by omega)]
    rw [if_pos (by omega), if_pos (by omega)]
    exact hK k (by omega)
theorem rset_ev (l : List Int) (i : Nat) (hu : U l) (hi : i / 32 < 1073741824) (hl : l.length ≤ 1073741824) (hbit : (val l / 2 ^ i) % 2 = 0) :
    ∃ r, (∃ K, ∀ k, K ≤ k → pelorusref01_set.f k l (i : Int) = some r) ∧ U r ∧ val r = val l + 2 ^ i ∧ r.length = max l.length (i / 32 + 1) := by
  obtain ⟨r, ⟨K, hK⟩, h⟩ := rset_l0 i (by omega) _ l hu rfl hl hi hbit
  refine ⟨r, ⟨K, fun k hk => ?_⟩, h⟩
  unfold pelorusref01_set.f
  rw [if_pos (by simp; omega), List.nil_append]
  exact hK k hk

/-! quotients, bit by bit -/
theorem div_unique {v D Q R : Int} (h : v = D * Q + R) (h0 : 0 ≤ R) (h1 : R < D) : v / D = Q ∧ v % D = R := by
  subst h
  rw [Int.add_comm]
  exact ⟨by rw [Int.add_mul_ediv_left _ _ (by omega), Int.ediv_eq_zero_of_lt h0 h1, Int.zero_add], by rw [Int.add_mul_emod_self_left, Int.emod_eq_of_lt h0 h1]⟩
theorem rdiv_l0 (a : List Int) (D : Int) (ha : U a) (hD : 0 < D) (L : Nat) (hL : L ≤ 268435456) (hDl : (lim D).length ≤ L) (hal : a.length ≤ L) (n : Nat) :
    ∀ (q : List Int) (R Q : Int), n ≤ 32 * a.length → U q → q.length ≤ L + 1 → 0 ≤ R → R < D → val q = 2 ^ n * Q → val a / 2 ^ n = D * Q + R →
      ∃ K, ∀ k, K ≤ k → pelorusref01_Div.l0 k a (lim D) q (lim R) ((n : Int) - 1) = some (lim (val a / D), lim (val a % D), true) := by
  induction n with
  | zero =>
    intro q R Q hn hq hql h0 h1 hv he
    rw [show (2 : Int) ^ 0 = 1 from rfl, Int.ediv_one] at he
    rw [show (2 : Int) ^ 0 = 1 from rfl, Int.one_mul] at hv
    obtain ⟨e1, e2⟩ := div_unique he h0 h1
    have hRl : (lim R).length ≤ L := Nat.le_trans (lim_len_mono h0 (by omega)) hDl
    obtain ⟨K1, c1⟩ := rtrim_ev q hq (by omega)
    obtain ⟨K2, c2⟩ := rtrim_ev (lim R) (U_lim h0) (by omega)
    rw [val_lim h0] at c2
    refine ⟨K1 + K2 + 1, fun k hk => ?_⟩
    obtain ⟨k, rfl⟩ : ∃ m, k = m + 1 := ⟨k - 1, by omega⟩
    simp only [pelorusref01_Div.l0]
    rw [if_neg (by omega), c1 k (by omega), Option.bind_some, c2 k (by omega), Option.bind_some, e1, e2, hv]
  | succ n ih =>
    intro q R Q hn hq hql h0 h1 hv he
    have hp := p2_pos n
    have hD0 : 0 ≤ D := by omega
    have hRl : (lim R).length ≤ L := Nat.le_trans (lim_len_mono h0 (by omega)) hDl
    obtain ⟨b, hb⟩ : ∃ b, b = (val a / 2 ^ n) % 2 := ⟨_, rfl⟩
    have hb2 : 0 ≤ b ∧ b ≤ 1 := by omega
    have hva : val a / 2 ^ n = 2 * (D * Q + R) + b := by
      have e : val a / 2 ^ (n + 1) = val a / 2 ^ n / 2 := by rw [Int.ediv_ediv_of_nonneg (by omega), p2_succ, Int.mul_comm]
      omega
    have hqbit : (val q / 2 ^ n) % 2 = 0 := by
      rw [hv, p2_succ, Int.mul_comm 2, Int.mul_assoc, Int.mul_ediv_cancel_left _ (by omega)]
      omega
    have l2 : (lim (2 * R)).length ≤ L + 1 := by
      refine lim_len (by omega) _ ?_
      have := val_lt (U_lim h0)
      rw [val_lim h0] at this
      have := pw_mono hRl
      rw [pw_succ]
      omega
    have l3 : (lim (2 * R + b)).length ≤ L + 1 := by
      refine lim_len (by omega) _ ?_
      have := val_lt (U_lim h0)
      rw [val_lim h0] at this
      have := pw_mono hRl
      rw [pw_succ]
      omega
    obtain ⟨K1, c1⟩ := radd_ev (lim R) (lim R) (U_lim h0) (U_lim h0) (by omega) (by omega)
    rw [val_lim h0, show R + R = 2 * R by omega] at c1
    obtain ⟨K2, c2⟩ := radd_ev (lim (2 * R)) [1] (U_lim (by omega)) (U_single (by omega) (by omega)) (by omega) (by simp)
    rw [val_lim (by omega), show val [1] = 1 by simp] at c2
    obtain ⟨K3, c3⟩ := rsub_ev (lim (2 * R + b)) (lim D) (U_lim (by omega)) (U_lim hD0) (by omega) (by omega)
    rw [val_lim (by omega), val_lim hD0] at c3
    -- the step behind the bit
    have hj : ∃ K, ∀ k, K ≤ k → pelorusref01_Div.j1 k a (lim D) q (lim (2 * R + b)) (n : Int) = some (lim (val a / D), lim (val a % D), true) := by
      by_cases hlt : 2 * R + b < D
      · obtain ⟨K4, c4⟩ := ih q (2 * R + b) (2 * Q) (by omega) hq hql (by omega) hlt (by rw [hv, p2_succ]; grind) (by rw [hva]; grind)
        refine ⟨K3 + K4 + 1, fun k hk => ?_⟩
        obtain ⟨k, rfl⟩ : ∃ m, k = m + 1 := ⟨k - 1, by omega⟩
        simp only [pelorusref01_Div.j1]
        rw [c3 k (by omega), Option.bind_some, if_pos hlt]
        simp only [Bool.false_eq_true, if_false]
        rw [w64 (by omega) (by omega)]
        exact c4 k (by omega)
      · obtain ⟨q', ⟨K5, c5⟩, hq', hv', hl'⟩ := rset_ev q n hq (by omega) (by omega) hqbit
        obtain ⟨K4, c4⟩ := ih q' (2 * R + b - D) (2 * Q + 1) (by omega) hq' (by omega) (by omega) (by omega) (by rw [hv', hv, p2_succ]; grind) (by rw [hva]; grind)
        refine ⟨K3 + K4 + K5 + 1, fun k hk => ?_⟩
        obtain ⟨k, rfl⟩ : ∃ m, k = m + 1 := ⟨k - 1, by omega⟩
        simp only [pelorusref01_Div.j1]
        rw [c3 k (by omega), Option.bind_some, if_neg hlt]
        simp only [if_true]
        rw [c5 k (by omega), Option.bind_some, w64 (by omega) (by omega)]
        exact c4 k (by omega)
    obtain ⟨K6, c6⟩ := hj
    refine ⟨K1 + K2 + K6 + 1, fun k hk => ?_⟩
    obtain ⟨k, rfl⟩ : ∃ m, k = m + 1 := ⟨k - 1, by omega⟩
    have e : ((n + 1 : Nat) : Int) - 1 = (n : Int) := by omega
    simp only [pelorusref01_Div.l0, e]
    rw [if_pos (by omega), c1 k (by omega), Option.bind_some, rbit_eq a ha n (by omega), Option.bind_some, ← hb]
    rcases (show b = 0 ∨ b = 1 by omega) with hb0 | hb1
    · rw [hb0] at c6 ⊢
      rw [if_neg (by decide)]
      rw [Int.add_zero] at c6
      exact c6 k (by omega)
    · rw [hb1] at c6 ⊢
      rw [if_pos (by decide), c2 k (by omega), Option.bind_some]
      exact c6 k (by omega)
theorem rdiv_ev (a b : List Int) (ha : U a) (hb : U b) (hla : a.length ≤ 134217728) (hlb : b.length ≤ 134217728) :
    ∃ K, ∀ k, K ≤ k → pelorusref01_Div.f k a b = some (if val b = 0 then ([], [], false) else (lim (val a / val b), lim (val a % val b), true)) := by
  have na := val_nonneg ha
  have nb := val_nonneg hb
  have lb := lim_len nb b.length (val_lt hb)
  obtain ⟨K1, h1⟩ := rtrim_ev b hb (by omega)
  by_cases c0 : val b = 0
  · refine ⟨K1, fun k hk => ?_⟩
    unfold pelorusref01_Div.f
    rw [h1 k hk, Option.bind_some, c0, lim_zero, if_pos (by simp), if_pos rfl]
  · have hne : ((lim (val b)).length : Int) ≠ 0 := fun h => c0 ((lim_nil_iff nb).1 (by omega))
    obtain ⟨K2, h2⟩ := rlen_ev a ha (by omega)
    have hb1 := bl_nonneg (val a)
    have hb2 := bl_le (n := val a) (m := 32 * a.length) (by rw [← p2_limb]; exact val_lt ha)
    obtain ⟨n, hn⟩ : ∃ n : Nat, bl (val a) = (n : Int) := ⟨(bl (val a)).toNat, by omega⟩
    have hlt := bl_lt na
    rw [hn, Int.toNat_natCast] at hlt
    obtain ⟨K3, h3⟩ := rdiv_l0 a (val b) ha (by omega) (max a.length b.length) (by omega) (by omega) (by omega) n [] 0 0 (by omega) U_nil (by simp) (by omega) (by omega) (by simp) (by rw [Int.ediv_eq_zero_of_lt na hlt]; simp)
    rw [lim_zero] at h3
    refine ⟨K1 + K2 + K3, fun k hk => ?_⟩
    unfold pelorusref01_Div.f
    rw [h1 k (by omega), Option.bind_some, if_neg hne, h2 k (by omega), Option.bind_some, hn, w64 (by omega) (by omega), if_neg c0]
    exact h3 k (by omega)
theorem rshr_ev (a : List Int) (n : Int) (ha : U a) (hl : a.length ≤ 134217728) : ∃ K, ∀ k, K ≤ k → pelorusref01_Shr.f k a n = some (lim (shrv (val a) n)) := by
  have na := val_nonneg ha
  unfold shrv pelorusref01_Shr.f
  by_cases c1 : n < 1
  · obtain ⟨K, hK⟩ := rtrim_ev a ha (by omega)
    refine ⟨K, fun k hk => ?_⟩
    rw [if_pos c1, if_pos c1, hK k hk, Option.bind_some]
  · obtain ⟨m, rfl⟩ : ∃ m : Nat, n = m := ⟨n.toNat, by omega⟩
    by_cases c2 : m ≥ 32 * a.length
    · have hlt := val_lt ha
      rw [p2_limb] at hlt
      have hm := p2_mono c2
      refine ⟨0, fun k _ => ?_⟩
      rw [if_neg c1, if_neg c1, w64 (by omega) (by omega), if_pos (by omega), Int.toNat_natCast, Int.ediv_eq_zero_of_lt na (by omega), lim_zero]
    · have hud := U_drop ha (m / 32)
      have nd := val_nonneg hud
      obtain ⟨K1, h1⟩ := rtrim_ev (a.drop (m / 32)) hud (by rw [List.length_drop]; omega)
      have hp := p2_31 (s := m % 32) (by omega)
      have ld := lim_len nd (a.drop (m / 32)).length (val_lt hud)
      rw [List.length_drop] at ld
      obtain ⟨K2, h2⟩ := rdiv_ev (lim (val (a.drop (m / 32)))) [2 ^ (m % 32)] (U_lim nd) (U_single (by omega) (by omega)) (by omega) (by simp)
      have e1 : val [(2 : Int) ^ (m % 32)] = 2 ^ (m % 32) := by simp
      rw [val_lim nd, e1, if_neg (by omega), ← val_div' ha, p2_limb, Int.ediv_ediv_of_nonneg (by have := p2_pos (32 * (m / 32)); omega), ← p2_add, show 32 * (m / 32) + m % 32 = m by omega] at h2
      refine ⟨K1 + K2, fun k hk => ?_⟩
      have e2 := h2 k (by omega)
      rw [if_neg c1, if_neg c1, w64 (by omega) (by omega), if_neg (by omega)]
      simp only [Int.tdiv_eq_ediv_of_nonneg (show (0 : Int) ≤ (m : Int) by omega), Int.tmod_eq_emod_of_nonneg (show (0 : Int) ≤ (m : Int) by omega), show (m : Int) / 32 = ((m / 32 : Nat) : Int) by omega, show (m : Int) % 32 = ((m % 32 : Nat) : Int) by omega, w64_nat (show m / 32 < 9223372036854775808 by omega), u64w (show 0 ≤ ((m % 32 : Nat) : Int) by omega) (show ((m % 32 : Nat) : Int) < 18446744073709551616 by omega), Int.toNat_natCast, shl1 (show m % 32 < 32 by omega)]
      rw [if_pos (by omega), if_pos (by omega), h1 k (by omega), Option.bind_some, if_pos (by omega), ← val_div' ha, p2_limb, e2, Option.bind_some]

/-! roots, bit by bit -/
theorem sq_mono {a b : Int} (ha : 0 ≤ a) (h : a ≤ b) : a * a ≤ b * b := Int.mul_le_mul h h ha (by omega)
end Go.Proofs.YtkemnoejpbknhaaDoor.T

namespace Go.Proofs.YtkemnoejpbknhaaDoor.T
set_option linter.unusedVariables false
set_option linter.unusedSimpArgs false
open Go.RowKit Go.Proofs.YtkemnoejpbknhaaDoorW.PrintWords Go.Proofs.YtkemnoejpbknhaaDoorW.PrintMore Go.Proofs.YtkemnoejpbknhaaDoor.PA

theorem make2_ev (neg : Bool) (l : List Int) (h : U l) (hb : l.length ≤ 1073741824) : ∃ K, ∀ k, K ≤ k → pelorusref02_Make.f k neg l = some (neg && decide (val l ≠ 0), lim (val l)) := by
  obtain ⟨K, hK⟩ := rtrim_ev l h hb
  refine ⟨K, fun k hk => ?_⟩
  unfold pelorusref02_Make.f
  rw [hK k hk, Option.bind_some]
  have hn := val_nonneg h
  cases neg
  · rfl
  · rw [if_pos rfl]
    congr 2
    rw [Bool.true_and, decide_eq_decide]
    have := lim_nil_iff hn
    omega
theorem even_eq {v : Int} (hv : 0 ≤ v) : pelorusref03_even.f (lim v) = some (decide (v ≠ 0 ∧ v % 2 = 0)) := by
  unfold pelorusref03_even.f
  by_cases h : v = 0
  · subst h
    have : lim 0 = [] := limN_zero
    rw [this]; rfl
  · have hl := lim_pos (n := v) (by omega)
    have hlen : 0 < ((lim v).length : Int) := by rw [hl]; simp
    rw [if_pos (by omega), if_pos (by omega), rd_eq, hl]
    simp only [Int.toNat_zero, List.getD_cons_zero]
    congr 1
    rw [Int.tmod_eq_emod_of_nonneg (by omega), Bool.eq_iff_iff, beq_iff_eq, decide_eq_true_iff]
    omega
theorem len_lim {v : Int} (hv : 0 ≤ v) (n : Nat) (h : v < 2 ^ n) : (lim v).length ≤ n / 32 + 1 := by
  refine lim_len hv _ ?_
  rw [p2_limb]
  exact Int.lt_of_lt_of_le h (p2_mono (by omega))
theorem bl_half {v : Int} (hv : 0 < v) (he : v % 2 = 0) : bl v = bl (v / 2) + 1 := by
  have := blp (v := v / 2) (by omega) 1
  rw [Int.pow_one, show v / 2 * 2 = v by omega] at this
  exact this
/-- Halved as often as that goes. -/
theorem m3_loop (neg : Bool) (n : Nat) : ∀ (v e i : Int), 0 < v → bl v = n → 0 ≤ i → i + n ≤ 4000000 → n ≤ 100000 → -4194304 ≤ e → e + n ≤ 4194304 →
    ∃ (o : Int) (t : Nat), 0 < o ∧ o % 2 = 1 ∧ v = o * 2 ^ t ∧ ∃ K, ∀ k, K ≤ k → pelorusref03_Make.l0 k e i neg (lim v) = some (neg, lim o, e + t) := by
  induction n with
  | zero => intro v e i hv hb; have := bl_pos hv; omega
  | succ n ih =>
    intro v e i hv hb i0 i1 hn e0 e1
    have ev := even_eq (v := v) (by omega)
    by_cases h2 : v % 2 = 0
    · have hb2 := bl_half hv h2
      obtain ⟨o, t, o0, o1, ho, hE⟩ := ih (v / 2) (e + 1) (i + 1) (by omega) (by omega) (by omega) (by omega) (by omega) (by omega) (by omega)
      refine ⟨o, t + 1, o0, o1, ?_, ?_⟩
      · rw [p2_succ, ← Int.mul_assoc, Int.mul_comm o 2, Int.mul_assoc, ← ho]; omega
      · have hl := len_lim (v := v) (by omega) (bl v).toNat (bl_lt (by omega))
        have s := rshr_ev (lim v) 1 (U_lim (by omega)) (by omega)
        rw [val_lim (by omega)] at s
        have sv : shrv v 1 = v / 2 := by unfold shrv; rw [if_neg (by decide)]; rfl
        rw [sv] at s
        obtain ⟨K1, s⟩ := s
        obtain ⟨K2, hE⟩ := hE
        refine ⟨K1 + K2 + 1, fun k hk => ?_⟩
        obtain ⟨k, rfl⟩ : ∃ m, k = m + 1 := ⟨k - 1, by omega⟩
        simp only [pelorusref03_Make.l0]
        rw [if_pos (by omega), ev, Option.bind_some, decide_eq_true ⟨by omega, h2⟩, if_pos rfl, s k (by omega), Option.bind_some, w64 (by omega) (by omega), w64 (by omega) (by omega), hE k (by omega)]
        congr 3
        omega
    · refine ⟨v, 0, hv, by omega, by simp, 1, fun k hk => ?_⟩
      obtain ⟨k, rfl⟩ : ∃ m, k = m + 1 := ⟨k - 1, by omega⟩
      simp only [pelorusref03_Make.l0]
      rw [if_pos (by omega), ev, Option.bind_some, decide_eq_false (fun h => h2 h.2), if_neg (by decide), if_neg (by omega)]
      congr 3
      omega
abbrev Dd := Bool × List Int × Int
/-- Which number s * 2^f is, its limbs odd. -/
def Rep (d : Dd) (s f : Int) : Prop := (s = 0 ∧ d = (false, [], 0)) ∨ ∃ (o : Int) (t : Nat), 0 < o ∧ o % 2 = 1 ∧ s ≠ 0 ∧ (s.natAbs : Int) = o * 2 ^ t ∧ d = (decide (s < 0), lim o, f + t)
theorem Rep.scale {d : Dd} {s f : Int} (j : Nat) (h : Rep d s (f + j)) : Rep d (s * 2 ^ j) f := by
  have hp := p2_pos j
  rcases h with ⟨rfl, h⟩ | ⟨o, t, o0, o1, s0, hs, hd⟩
  · exact .inl ⟨by omega, h⟩
  · refine .inr ⟨o, t + j, o0, o1, Int.mul_ne_zero s0 (by omega), ?_, ?_⟩
    · rw [Int.natAbs_mul, Int.natCast_mul, show ((((2 : Int) ^ j).natAbs : Nat) : Int) = 2 ^ j from Int.natAbs_of_nonneg (by omega), hs, p2_add, Int.mul_assoc]
    · rw [hd]
      have : decide (s * 2 ^ j < 0) = decide (s < 0) := by
        by_cases h2 : s < 0
        · rw [decide_eq_true h2, decide_eq_true (Int.mul_neg_of_neg_of_pos h2 hp)]
        · rw [decide_eq_false h2, decide_eq_false]
          have := Int.mul_pos (show 0 < s by omega) hp
          omega
      rw [this]
      congr 2
      omega
theorem sg_abs (neg : Bool) {v : Int} (hv : 0 ≤ v) : ((sg neg v).natAbs : Int) = v := by
  unfold sg
  cases neg
  · simp only [Bool.false_eq_true, if_false]; exact Int.natAbs_of_nonneg hv
  · simp only [if_true, Int.natAbs_neg]; exact Int.natAbs_of_nonneg hv
theorem sg_lt (neg : Bool) {v : Int} (hv : 0 < v) : decide (sg neg v < 0) = neg := by
  unfold sg
  cases neg
  · simp only [Bool.false_eq_true, if_false]; exact decide_eq_false (by omega)
  · simp only [if_true]; exact decide_eq_true (by omega)
theorem sg_ne (neg : Bool) {v : Int} (hv : 0 < v) : sg neg v ≠ 0 := by
  unfold sg
  cases neg
  · simp only [Bool.false_eq_true, if_false]; omega
  · simp only [if_true]; omega
theorem sg_of (s : Int) : sg (decide (s < 0)) s.natAbs = s := by
  unfold sg
  by_cases h : s < 0
  · rw [decide_eq_true h, if_pos rfl]; omega
  · rw [decide_eq_false h, if_neg (by decide)]; omega
theorem make3_ev (neg : Bool) (l : List Int) (e : Int) (h : U l) (hb : l.length ≤ 1073741824) (hl : bl (val l) ≤ 100000) (e0 : -4194304 ≤ e) (e1 : e + bl (val l) ≤ 4194304) :
    ∃ d, Rep d (sg neg (val l)) e ∧ ∃ K, ∀ k, K ≤ k → pelorusref03_Make.f k neg l e = some d := by
  have hn := val_nonneg h
  obtain ⟨K, hK⟩ := make2_ev neg l h hb
  by_cases hz : val l = 0
  · refine ⟨(false, [], 0), .inl ⟨by rw [hz]; cases neg <;> rfl, rfl⟩, K + 1, fun k hk => ?_⟩
    obtain ⟨k, rfl⟩ : ∃ m, k = m + 1 := ⟨k - 1, by omega⟩
    unfold pelorusref03_Make.f
    rw [hK (k + 1) (by omega), Option.bind_some, hz, show lim 0 = [] from limN_zero]
    rfl
  · have bp := bl_pos (n := val l) (by omega)
    obtain ⟨o, t, o0, o1, ho, K2, hE⟩ := m3_loop neg (bl (val l)).toNat (val l) e 0 (by omega) (by omega) (by decide) (by omega) (by omega) e0 (by omega)
    refine ⟨(neg, lim o, e + t), .inr ⟨o, t, o0, o1, sg_ne neg (by omega), by rw [sg_abs neg hn]; exact ho, by rw [sg_lt neg (by omega)]⟩, K + K2 + 1, fun k hk => ?_⟩
    obtain ⟨k, rfl⟩ : ∃ m, k = m + 1 := ⟨k - 1, by omega⟩
    unfold pelorusref03_Make.f
    rw [hK (k + 1) (by omega), Option.bind_some]
    simp only
    have := lim_nil_iff hn
    rw [if_neg (by omega), if_neg (by omega), decide_eq_false (show ¬ e > 4194304 by omega), decide_eq_true hz, Bool.and_true]
    simp only [pelorusref03_Make.j0, Bool.false_eq_true, if_false]
    exact hE k (by omega)
/-- Made once more it is the same number. -/
theorem rep_make {d : Dd} {s f : Int} (h : Rep d s f) (hb : bl s.natAbs ≤ 100000) (f0 : -4194304 ≤ f) (f1 : f + bl s.natAbs ≤ 4194304) : ∃ d', Rep d' s f ∧ ∃ K, ∀ k, K ≤ k → pelorusref03_Make.f k d.1 d.2.1 d.2.2 = some d' := by
  rcases h with ⟨rfl, rfl⟩ | ⟨o, t, o0, o1, s0, hs, rfl⟩
  · obtain ⟨d', h1, h2⟩ := make3_ev false [] 0 U_nil (by simp) (by decide) (by decide) (by decide)
    refine ⟨d', ?_, h2⟩
    rcases h1 with ⟨_, h1⟩ | ⟨_, _, _, _, h1, _⟩
    · exact .inl ⟨rfl, h1⟩
    · exact absurd rfl h1
  · have bs := blp o0 t
    rw [← hs] at bs
    have bo := bl_nonneg o
    have hl := len_lim (v := o) (by omega) (bl o).toNat (bl_lt (by omega))
    have v := val_lim (n := o) (by omega)
    obtain ⟨d', h1, h2⟩ := make3_ev (decide (s < 0)) (lim o) (f + t) (U_lim (by omega)) (by omega) (by rw [v]; omega) (by omega) (by rw [v]; omega)
    rw [v] at h1
    refine ⟨d', ?_, h2⟩
    have h3 := h1.scale
    have e : sg (decide (s < 0)) o * 2 ^ t = s := by
      conv => rhs; rw [← sg_of s, hs]
      unfold sg
      split
      · rw [Int.neg_mul]
      · rfl
    rwa [e] at h3
theorem natAbs_lt_p {s : Int} {n : Nat} (h : bl s.natAbs ≤ n) : (s.natAbs : Int) < 2 ^ n := by
  have h1 := bl_lt (n := (s.natAbs : Int)) (by omega)
  have h2 := bl_nonneg (s.natAbs : Int)
  have h3 := p2_mono (show (bl (s.natAbs : Int)).toNat ≤ n by omega)
  omega
theorem bl_abs {s : Int} {n : Nat} (h0 : -(2 ^ n) < s) (h1 : s < 2 ^ n) : bl s.natAbs ≤ n := bl_le (by omega)
theorem mul_neg_p (x : Int) (n : Nat) : (-x) * 2 ^ n = -(x * 2 ^ n) := Int.neg_mul _ _
theorem sg_mulr (n : Bool) (x y : Int) : sg n (x * y) = sg n x * y := by
  unfold sg; split
  · rw [Int.neg_mul]
  · rfl
theorem may5_eq (a : Int) (b : Bool) (c d : Int) (h1 : c < 18446744073709551616) : pelorusref05_May.f a b c d = some (decide (mayP (a, b, c, d))) := by
  rw [← may_eq a b c d h1]
  unfold pelorusref05_May.f num_May.f
  by_cases h0 : a = 0
  · subst h0
    rw [if_neg (by decide), if_neg (by decide), if_pos rfl, if_pos rfl]
    cases b
    · by_cases hc : c = 0
      · rw [if_neg (by decide), if_pos hc, hc]; rfl
      · rw [if_neg (by decide), if_neg hc, show (c == 0) = false by simpa using hc]; rfl
    · rfl
  · rw [if_neg h0]
    by_cases h2 : a = 1
    · subst h2; rfl
    · by_cases h3 : a = 2
      · subst h3; rfl
      · simp only [h0, h2, h3, if_false]
theorem fair5_eq (a : Int) (b : Bool) (c d : Int) (h1 : c < 18446744073709551616) : pelorusref05_fair.f a b c d = some (fairv (a, b, c, d)) := by
  rw [← nfair_eq a b c d h1]
  unfold pelorusref05_fair.f num_fair.f
  rw [may5_eq a b c d h1, may_eq a b c d h1]
theorem neg5_eq (a : Int) (b : Bool) (c d : Int) (h1 : c < 18446744073709551616) : pelorusref05_Neg.f a b c d = some (ngv (fairv (a, b, c, d))) := by
  unfold pelorusref05_Neg.f
  rw [fair5_eq a b c d h1, Option.bind_some]
  have h := fairv_may (a, b, c, d)
  generalize fairv (a, b, c, d) = n at h
  obtain ⟨n1, n2, n3, n4⟩ := n
  unfold ngv
  rcases h with ⟨h1, h2, h3, h4⟩ | ⟨h1, h2⟩ | ⟨h1, h2⟩ <;> simp only at h1
  · simp only at h2 h3 h4; subst h1 h2 h3 h4; rfl
  · subst h1; rfl
  · subst h1; rfl
theorem fin5_eq (neg : Bool) (m e : Int) (away : Bool) : pelorusref05_finite.f neg m e away = some (bnd neg m e away) := by
  unfold pelorusref05_finite.f bnd
  by_cases h : e > 1048576
  · rw [if_pos h, if_pos h]; cases away <;> rfl
  · rw [if_neg h, if_neg h]
    by_cases h2 : e < -1048576
    · rw [if_pos h2, if_pos h2]; cases away <;> rfl
    · rw [if_neg h2, if_neg h2]
theorem word_step (k : Nat) (l : List Int) (x : Int) (i : Nat) (h : i < l.length) (hb : l.length ≤ 2) (x0 : 0 ≤ x) (x1 : x < 4294967296) (hu : U l) :
    pelorusref05_word.l0 (k + 1) l x (i : Int) = pelorusref05_word.l0 k l (x * 4294967296 + l.getD i 0) ((i : Int) - 1) := by
  have hg := U_getD hu i
  simp only [pelorusref05_word.l0, rd_eq, Int.toNat_natCast]
  rw [if_pos (by omega), if_pos (by omega), if_pos (by omega), u64w (x := x * 4294967296) (by omega) (by omega), u64w (x := l.getD i 0) (by omega) (by omega), u64w (by omega) (by omega), w64 (by omega) (by omega)]
theorem word_end (k : Nat) (l : List Int) (x : Int) : pelorusref05_word.l0 (k + 1) l x (-1) = some x := by
  simp only [pelorusref05_word.l0]
  rw [if_neg (by decide)]
theorem word_ev {v : Int} (h0 : 0 ≤ v) (h1 : v < 18446744073709551616) : ∃ K, ∀ k, K ≤ k → pelorusref05_word.f k (lim v) = some v := by
  have hl := lim_len h0 2 (by rw [show pw 2 = 18446744073709551616 by decide]; exact h1)
  have u := U_lim h0
  have hv := val_lim h0
  generalize lim v = l at *
  refine ⟨3, fun k hk => ?_⟩
  obtain ⟨k, rfl⟩ : ∃ m, k = m + 3 := ⟨k - 3, by omega⟩
  unfold pelorusref05_word.f
  rw [w64 (by omega) (by omega)]
  match l, hl, u, hv with
  | [], _, _, hv =>
    have : (0 : Int) = v := hv
    subst this
    exact word_end _ _ _
  | [a], hl, u, hv =>
    have ha := u a (by simp)
    have e : v = a := by rw [← hv]; simp
    have s := word_step (k + 2) [a] 0 0 (by simp) hl (by decide) (by decide) u
    refine s.trans ?_
    refine (word_end _ _ _).trans ?_
    rw [e]
    simp
  | [a, b], hl, u, hv =>
    have ha := u a (by simp)
    have hb := u b (by simp)
    have e : v = a + 4294967296 * b := by rw [← hv]; simp
    have s := word_step (k + 2) [a, b] 0 1 (by simp) hl (by decide) (by decide) u
    refine s.trans ?_
    have s2 := word_step (k + 1) [a, b] (0 * 4294967296 + [a, b].getD 1 0) 0 (by simp) hl (by simp; omega) (by simp; omega) u
    refine s2.trans ?_
    refine (word_end _ _ _).trans ?_
    rw [e]
    simp
    omega
/-- What a finite number is, exactly. -/
theorem exact_ev (neg : Bool) {m e : Int} (m0 : 9223372036854775808 ≤ m) (m1 : m < 18446744073709551616) (e0 : -1048576 ≤ e) (e1 : e ≤ 1048576) :
    ∃ d, Rep d (sg neg m) e ∧ ∃ K, ∀ k, K ≤ k → pelorusref05_Exact.f k 1 neg m e = some (d.1, d.2.1, d.2.2, true) := by
  have hu : U [m % 4294967296, m / 4294967296] := by simp [U]; omega
  have hv : val [m % 4294967296, m / 4294967296] = m := by simp; omega
  have bm := bl_le (n := m) (m := 64) (by rw [p64]; exact m1)
  have bm0 := bl_pos (n := m) (by omega)
  obtain ⟨K1, h1⟩ := make2_ev neg [m % 4294967296, m / 4294967296] hu (by simp)
  rw [hv, decide_eq_true (by omega), Bool.and_true] at h1
  have ll := len_lim (v := m) (by omega) 64 (by rw [p64]; exact m1)
  obtain ⟨d, hd, K2, h2⟩ := make3_ev neg (lim m) e (U_lim (by omega)) (by omega) (by rw [val_lim (by omega)]; omega) (by omega) (by rw [val_lim (by omega)]; omega)
  rw [val_lim (by omega)] at hd
  refine ⟨d, hd, K1 + K2 + 1, fun k hk => ?_⟩
  obtain ⟨k, rfl⟩ : ∃ i, k = i + 1 := ⟨k - 1, by omega⟩
  unfold pelorusref05_Exact.f
  rw [may5_eq 1 neg m e m1, Option.bind_some, decide_eq_true (show mayP (1, neg, m, e) from .inr (.inl ⟨rfl, m0, m1, e0, e1⟩)), if_pos rfl]
  simp only [pelorusref05_Exact.j0, show ((1 : Int) == 2) = false from rfl, Bool.false_eq_true, if_false, show ¬ ((1 : Int) = 0) by decide]
  unfold pelorusref05_limbs.f
  rw [Option.bind_some, Int.tmod_eq_emod_of_nonneg (by omega), Int.tdiv_eq_ediv_of_nonneg (by omega), u64w (by omega) (by omega), show m % 4294967296 % 4294967296 = m % 4294967296 by omega, show m / 4294967296 % 4294967296 = m / 4294967296 by omega, h1 k (by omega), Option.bind_some, h2 k (by omega), Option.bind_some]
theorem exact0_ev (k : Nat) (hk : 1 ≤ k) : pelorusref05_Exact.f k 0 false 0 0 = some (false, [], 0, true) := by
  obtain ⟨k, rfl⟩ : ∃ i, k = i + 1 := ⟨k - 1, by omega⟩
  rfl
/-- Rounded. -/
theorem round_ev {d : Dd} {s f : Int} (hd : Rep d s f) (up : Bool) (hs : bl s.natAbs ≤ 90000) (f0 : -3000000 ≤ f) (f1 : f ≤ 3000000) :
    ∃ K, ∀ k, K ≤ k → pelorusref05_Round.f k d.1 d.2.1 d.2.2 up = some (rnz s f up) := by
  obtain ⟨a, ha, K1, h1⟩ := rep_make hd (by omega) (by omega) (by omega)
  rcases ha with ⟨rfl, rfl⟩ | ⟨o, t, o0, o1, s0, ho, rfl⟩
  · refine ⟨K1, fun k hk => ?_⟩
    unfold pelorusref05_Round.f
    rw [h1 k hk, Option.bind_some]
    rfl
  have bo := blp o0 t
  rw [← ho] at bo
  have po := bl_pos o0
  have lo := len_lim (v := o) (by omega) (bl o).toNat (bl_lt (by omega))
  have er : rnz s f up = rnd (decide (s < 0)) o (f + t) (up != decide (s < 0)) := by
    unfold rnz
    rw [if_neg s0, ho, rnd_scale o0]
  have nl := lim_nil_iff (n := o) (by omega)
  obtain ⟨K2, h2⟩ := rlen_ev (lim o) (U_lim (by omega)) (by omega)
  rw [val_lim (by omega)] at h2
  rw [er]
  generalize hneg : decide (s < 0) = neg
  rw [hneg] at h1
  by_cases hb : bl o ≤ 64
  · obtain ⟨j, hj⟩ : ∃ j : Nat, 64 - bl o = j := ⟨(64 - bl o).toNat, by omega⟩
    have w : wrap64 (64 - bl o) = (j : Int) := by rw [w64 (by omega) (by omega)]; omega
    obtain ⟨K3, h3⟩ := rshl_ev (lim o) j (U_lim (by omega)) (by omega)
    rw [val_lim (by omega), shlv_eq (by omega) (by omega), Int.toNat_natCast] at h3
    have pj := p2_pos j
    have v0 := Int.mul_pos o0 pj
    have v1 := mul_lt_p j (bl_lt (n := o) (by omega))
    rw [← p2_add, show (bl o).toNat + j = 64 by omega, p64] at v1
    obtain ⟨K4, h4⟩ := word_ev (v := o * 2 ^ j) (by omega) v1
    refine ⟨K1 + K2 + K3 + K4, fun k hk => ?_⟩
    unfold pelorusref05_Round.f
    rw [h1 k (by omega), Option.bind_some]
    simp only
    rw [if_neg (by omega), h2 k (by omega), Option.bind_some, if_pos hb, w, h3 k (by omega), Option.bind_some, h4 k (by omega), Option.bind_some, fin5_eq, Option.bind_some, w64 (x := f + (t : Int) + bl o) (by omega) (by omega), w64 (by omega) (by omega)]
    unfold rnd
    rw [if_pos hb, hj, Int.toNat_natCast]
  · obtain ⟨j, hj⟩ : ∃ j : Nat, bl o - 64 = (j + 1 : Nat) := ⟨(bl o - 65).toNat, by omega⟩
    have w : wrap64 (bl o - 64) = ((j + 1 : Nat) : Int) := by rw [w64 (by omega) (by omega)]; omega
    obtain ⟨K3, h3⟩ := rshr_ev (lim o) ((j + 1 : Nat) : Int) (U_lim (by omega)) (by omega)
    rw [val_lim (by omega), shrv_eq (by omega), Int.toNat_natCast] at h3
    have pj := p2_pos (j + 1)
    have q0 := Int.le_ediv_of_mul_le (a := 9223372036854775808) (b := o) pj (by
      have := bl_ge o0
      rw [show (bl o - 1).toNat = 63 + (j + 1) by omega, p2_add, p63] at this
      exact this)
    have q1 := Int.ediv_lt_of_lt_mul (a := o) (b := 18446744073709551616) pj (by
      have := bl_lt (n := o) (by omega)
      rw [show (bl o).toNat = 64 + (j + 1) by omega, p2_add, p64] at this
      exact this)
    have cut : decide (o % 2 ^ (j + 1) ≠ 0) = true := by
      refine decide_eq_true fun h => ?_
      have := Int.mul_ediv_add_emod o (2 ^ (j + 1))
      rw [h, p2_succ, Int.mul_assoc] at this
      omega
    have er2 : rnd neg o (f + t) (up != neg) = grw neg (o / 2 ^ (j + 1)) (f + t + bl o - 64) true (up != neg) := by
      unfold rnd
      rw [if_neg hb, hj, Int.toNat_natCast, cut]
    rw [er2]
    have w1 : wrap64 (wrap64 (f + (t : Int) + bl o) - 64) = f + t + bl o - 64 := by rw [w64 (x := f + (t : Int) + bl o) (by omega) (by omega), w64 (by omega) (by omega)]
    generalize hq : o / 2 ^ (j + 1) = q at *
    have lq := len_lim (v := q) (by omega) 64 (by rw [p64]; exact q1)
    cases haw : (up != neg)
    · obtain ⟨K4, h4⟩ := word_ev (v := q) (by omega) q1
      refine ⟨K1 + K2 + K3 + K4, fun k hk => ?_⟩
      unfold pelorusref05_Round.f
      rw [h1 k (by omega), Option.bind_some]
      simp only
      rw [if_neg (by omega), h2 k (by omega), Option.bind_some, if_neg hb, w, h3 k (by omega), Option.bind_some, haw, if_neg (by decide), h4 k (by omega), Option.bind_some, fin5_eq, Option.bind_some, w1]
      unfold grw
      rw [if_neg (by simp)]
    · obtain ⟨K4, h4⟩ := radd_ev (lim q) [1] (U_lim (by omega)) (U_single (by decide) (by decide)) (by omega) (by simp)
      rw [val_lim (by omega), show val [1] = 1 by simp] at h4
      have lq1 := len_lim (v := q + 1) (by omega) 65 (by rw [show (2 : Int) ^ 65 = 36893488147419103232 by decide]; omega)
      obtain ⟨K5, h5⟩ := rlen_ev (lim (q + 1)) (U_lim (by omega)) (by omega)
      rw [val_lim (by omega)] at h5
      by_cases hc : q + 1 = 18446744073709551616
      · have b65 : bl (q + 1) = 65 := by rw [hc]; decide +kernel
        obtain ⟨K6, h6⟩ := rshr_ev (lim (q + 1)) 1 (U_lim (by omega)) (by omega)
        rw [val_lim (by omega), show shrv (q + 1) 1 = 9223372036854775808 by rw [hc]; decide +kernel] at h6
        obtain ⟨K7, h7⟩ := word_ev (v := 9223372036854775808) (by decide) (by decide)
        refine ⟨K1 + K2 + K3 + K4 + K5 + K6 + K7, fun k hk => ?_⟩
        unfold pelorusref05_Round.f
        rw [h1 k (by omega), Option.bind_some]
        simp only
        rw [if_neg (by omega), h2 k (by omega), Option.bind_some, if_neg hb, w, h3 k (by omega), Option.bind_some, haw, if_pos rfl, h4 k (by omega), Option.bind_some, h5 k (by omega), Option.bind_some, if_pos (by omega), h6 k (by omega), Option.bind_some, h7 k (by omega), Option.bind_some, fin5_eq, Option.bind_some, w1, w64 (by omega) (by omega)]
        unfold grw
        rw [if_pos ⟨rfl, rfl⟩, if_pos hc]
      · have b64 := bl_le (n := q + 1) (m := 64) (by rw [p64]; omega)
        obtain ⟨K7, h7⟩ := word_ev (v := q + 1) (by omega) (by omega)
        refine ⟨K1 + K2 + K3 + K4 + K5 + K7, fun k hk => ?_⟩
        unfold pelorusref05_Round.f
        rw [h1 k (by omega), Option.bind_some]
        simp only
        rw [if_neg (by omega), h2 k (by omega), Option.bind_some, if_neg hb, w, h3 k (by omega), Option.bind_some, haw, if_pos rfl, h4 k (by omega), Option.bind_some, h5 k (by omega), Option.bind_some, if_neg (by omega), h7 k (by omega), Option.bind_some, fin5_eq, Option.bind_some, w1]
        unfold grw
        rw [if_pos ⟨rfl, rfl⟩, if_neg hc]

/-- The whole number of a finite one, or nought. -/
def sv (n : Nm) : Int := if n.1 = 1 then sg n.2.1 n.2.2.1 else 0
theorem sg_bd (n : Bool) {m : Int} (h0 : 0 ≤ m) {b : Int} (h1 : m < b) : -b < sg n m ∧ sg n m < b := by
  unfold sg; split <;> omega
/-- A finite number, or nought, exactly. -/
theorem ex_ev {a : Nm} (ha : mayP a) (h2 : a.1 ≠ 2) : ∃ d, (∀ j : Nat, Rep d (sv a * 2 ^ j) (a.2.2.2 - j)) ∧ -18446744073709551616 < sv a ∧ sv a < 18446744073709551616 ∧ ∃ K, ∀ k, K ≤ k → pelorusref05_Exact.f k a.1 a.2.1 a.2.2.1 a.2.2.2 = some (d.1, d.2.1, d.2.2, true) := by
  obtain ⟨a1, a2, a3, a4⟩ := a
  rcases ha with ⟨h1, q2, q3, q4⟩ | ⟨h1, q2, q3, q4, q5⟩ | ⟨h1, _⟩ <;> simp only at h1
  · simp only at q2 q3 q4
    subst h1 q2 q3 q4
    refine ⟨(false, [], 0), fun j => .inl ⟨?_, rfl⟩, by decide, by decide, 1, fun k hk => exact0_ev k hk⟩
    show 0 * 2 ^ j = 0
    omega
  · subst h1
    simp only at q2 q3 q4 q5
    obtain ⟨d, hd, hK⟩ := exact_ev a2 q2 q3 q4 q5
    have e : sv (1, a2, a3, a4) = sg a2 a3 := rfl
    have b := sg_bd a2 (by omega) q3
    refine ⟨d, fun j => ?_, by rw [e]; exact b.1, by rw [e]; exact b.2, hK⟩
    rw [e]
    refine Rep.scale j ?_
    rw [show a4 - (j : Int) + j = a4 by omega]
    exact hd
  · exact absurd h1 h2
theorem rnz_sv {a : Nm} (ha : mayP a) (h2 : a.1 ≠ 2) (up : Bool) : rnz (sv a) a.2.2.2 up = a := by
  obtain ⟨a1, a2, a3, a4⟩ := a
  rcases ha with ⟨h1, q2, q3, q4⟩ | ⟨h1, q2, q3, q4, q5⟩ | ⟨h1, _⟩ <;> simp only at h1
  · simp only at q2 q3 q4
    subst h1 q2 q3 q4
    rfl
  · subst h1
    simp only at q2 q3 q4 q5
    have e : sv (1, a2, a3, a4) = sg a2 a3 := rfl
    rw [e]
    simp only
    rw [rnz_sg (by omega), rnd_self q2 q3, bnd_in q4 q5]
  · exact absurd h1 h2
theorem sv_zero {a : Nm} (h : a.1 = 0) : sv a = 0 := by unfold sv; rw [if_neg (by omega)]
theorem addv_sv {a b : Nm} (ha : mayP a) (hb : mayP b) (a2 : a.1 ≠ 2) (b2 : b.1 ≠ 2) (up : Bool) (i j : Nat) (f : Int) (hi : f = a.2.2.2 - i) (hj : f = b.2.2.2 - j) (hf : f = min a.2.2.2 b.2.2.2) : rnz (sv a * 2 ^ i + sv b * 2 ^ j) f up = addv a b up := by
  have ha' := ha
  rcases ha with ⟨h1, _⟩ | ⟨h1, _⟩ | ⟨h1, _⟩
  · unfold addv
    rw [if_neg (fun h => a2 h.1), sv_zero h1, Int.zero_mul, Int.zero_add, hj, rnz_scale, show b.2.2.2 - (j : Int) + j = b.2.2.2 by omega, rnz_sv hb b2]
    by_cases z : b.1 = 0
    · rw [if_pos (.inr z)]
      rcases hb with ⟨g1, g2, g3, g4⟩ | ⟨g1, _⟩ | ⟨g1, _⟩
      · rcases ha' with ⟨_, k2, k3, k4⟩ | ⟨k1, _⟩ | ⟨k1, _⟩
        · obtain ⟨a1, a2, a3, a4⟩ := a
          obtain ⟨b1, b2, b3, b4⟩ := b
          simp only at h1 k2 k3 k4 g1 g2 g3 g4
          subst h1 k2 k3 k4 g1 g2 g3 g4
          rfl
        · omega
        · omega
      · omega
      · omega
    · rw [if_neg (by omega), if_pos (.inr h1)]
  · rcases hb with ⟨g1, _⟩ | ⟨g1, _⟩ | ⟨g1, _⟩
    · unfold addv
      rw [if_neg (fun h => a2 h.1), sv_zero g1, Int.zero_mul, Int.add_zero, hi, rnz_scale, show a.2.2.2 - (i : Int) + i = a.2.2.2 by omega, rnz_sv ha' a2, if_pos (.inr g1)]
    · rw [addv_fin h1 g1, hf]
      unfold exs sv
      rw [if_pos h1, if_pos g1]
      rw [show (a.2.2.2 - min a.2.2.2 b.2.2.2).toNat = i by omega, show (b.2.2.2 - min a.2.2.2 b.2.2.2).toNat = j by omega]
    · exact absurd g1 b2
  · exact absurd h1 a2
end Go.Proofs.YtkemnoejpbknhaaDoor.T

namespace Go.Proofs.YtkemnoejpbknhaaDoor.T
set_option linter.unusedVariables false
set_option linter.unusedSimpArgs false
open Go.RowKit Go.Proofs.YtkemnoejpbknhaaDoorW.PrintWords Go.Proofs.YtkemnoejpbknhaaDoorW.PrintMore Go.Proofs.YtkemnoejpbknhaaDoor.PA

theorem mag_le {am ae bm be : Int} {i j : Nat} (a1 : am < 18446744073709551616) (b0 : 9223372036854775808 ≤ bm) (hE : ae - i = be - j) (h : ae < be ∨ ae = be ∧ am ≤ bm) : am * 2 ^ i ≤ bm * 2 ^ j := by
  rcases h with h | ⟨h, h2⟩
  · obtain ⟨d, rfl⟩ : ∃ d : Nat, j = i + 1 + d := ⟨j - i - 1, by omega⟩
    have p1 := mul_le_p (i + 1 + d) b0
    have p2 := p2_mono (show i + 1 ≤ i + 1 + d by omega)
    have p3 := mul_lt_p i a1
    rw [p2_succ] at p2
    omega
  · have : i = j := by omega
    subst this
    exact mul_le_p i h2
theorem val_le {a b : Nm} (ha : mayP a) (hb : mayP b) (a2 : a.1 ≠ 2) (b2 : b.1 ≠ 2) {i j : Nat} (hE : a.2.2.2 - i = b.2.2.2 - j) (h : kv a ≤ kv b) : sv a * 2 ^ i ≤ sv b * 2 ^ j := by
  have pi := p2_pos i
  have pj := p2_pos j
  have fa : a.1 = 0 ∨ a.1 = 1 := by rcases ha with ⟨h, _⟩ | ⟨h, _⟩ | ⟨h, _⟩ <;> omega
  have fb : b.1 = 0 ∨ b.1 = 1 := by rcases hb with ⟨h, _⟩ | ⟨h, _⟩ | ⟨h, _⟩ <;> omega
  unfold kv at h
  unfold sv
  rcases fa with fa | fa <;> rcases fb with fb | fb
  · rw [if_neg (by omega), if_neg (by omega)]; omega
  · obtain ⟨k1, k2, k3⟩ := mg_fin hb fb
    obtain ⟨b0, b1, -, -⟩ := may_fin hb fb
    rw [mg_zero fa] at h
    rw [if_neg (by omega), if_pos fb, Int.zero_mul]
    have := Int.mul_nonneg (show 0 ≤ b.2.2.1 by omega) (show (0 : Int) ≤ 2 ^ j by omega)
    cases hn : b.2.1 <;> rw [hn] at h
    · simpa [sg] using this
    · cases a.2.1 <;> simp [sg] at h <;> omega
  · obtain ⟨k1, k2, k3⟩ := mg_fin ha fa
    obtain ⟨b0, b1, -, -⟩ := may_fin ha fa
    rw [mg_zero fb] at h
    rw [if_neg (c := b.1 = 1) (by omega), if_pos fa, Int.zero_mul]
    have := Int.mul_nonneg (show 0 ≤ a.2.2.1 by omega) (show (0 : Int) ≤ 2 ^ i by omega)
    cases hn : a.2.1 <;> rw [hn] at h
    · cases b.2.1 <;> simp [sg] at h <;> omega
    · simp only [sg, if_true, Int.neg_mul]; omega
  · obtain ⟨k1, k2, k3⟩ := mg_fin ha fa
    obtain ⟨l1, l2, l3⟩ := mg_fin hb fb
    obtain ⟨a0, a1, -, -⟩ := may_fin ha fa
    obtain ⟨b0, b1, -, -⟩ := may_fin hb fb
    rw [if_pos fa, if_pos fb]
    have pa := Int.mul_nonneg (show 0 ≤ a.2.2.1 by omega) (show (0 : Int) ≤ 2 ^ i by omega)
    have pb := Int.mul_nonneg (show 0 ≤ b.2.2.1 by omega) (show (0 : Int) ≤ 2 ^ j by omega)
    cases hn : a.2.1 <;> cases hm : b.2.1 <;> rw [hn, hm] at h <;> simp only [sg, Bool.false_eq_true, if_false, if_true, Int.neg_mul] at h ⊢
    · exact mag_le a1 b0 hE (by omega)
    · omega
    · omega
    · have := mag_le b1 a0 hE.symm (by omega)
      omega
theorem addv_gen {a b : Nm} (ha : mayP a) (hb : mayP b) (a2 : a.1 ≠ 2) (b2 : b.1 ≠ 2) (up : Bool) {i j : Nat} {f : Int} (hi : f = a.2.2.2 - i) (hj : f = b.2.2.2 - j) : rnz (sv a * 2 ^ i + sv b * 2 ^ j) f up = addv a b up := by
  obtain ⟨i0, j0, k, h1, h2, h3⟩ : ∃ i0 j0 k : Nat, i = i0 + k ∧ j = j0 + k ∧ min a.2.2.2 b.2.2.2 = f + k := ⟨i - (min a.2.2.2 b.2.2.2 - f).toNat, j - (min a.2.2.2 b.2.2.2 - f).toNat, (min a.2.2.2 b.2.2.2 - f).toNat, by omega, by omega, by omega⟩
  rw [← addv_sv ha hb a2 b2 up i0 j0 (f + k) (by omega) (by omega) h3.symm, ← rnz_scale, Int.add_mul, Int.mul_assoc, Int.mul_assoc, ← p2_add, ← p2_add, h1, h2]
theorem kv_bd {n : Nm} (h : mayP n) : -(2097153 * 9223372036854775808 + 1) ≤ kv n ∧ kv n ≤ 2097153 * 9223372036854775808 + 1 := by
  have := mg_bd h
  unfold kv sg
  split <;> omega
theorem kv_inf {n : Nm} (h : n.1 = 2) : kv n = sg n.2.1 (2097153 * 9223372036854775808 + 1) := by unfold kv; rw [mg_inf h]
theorem inf_of_kv {n : Nm} (h : mayP n) (hk : kv n = 2097153 * 9223372036854775808 + 1) : n.1 = 2 ∧ n.2.1 = false := by
  rcases h with ⟨h1, _⟩ | ⟨h1, h2⟩ | ⟨h1, _⟩
  · unfold kv at hk; rw [mg_zero h1] at hk; exfalso; unfold sg at hk; split at hk <;> omega
  · have := mg_fin (n := n) (.inr (.inl ⟨h1, h2⟩)) h1
    unfold kv sg at hk; split at hk <;> omega
  · refine ⟨h1, ?_⟩
    rw [kv_inf h1] at hk
    cases hn : n.2.1
    · rfl
    · rw [hn] at hk; exact absurd hk (by decide)
theorem ninf_of_kv {n : Nm} (h : mayP n) (hk : kv n = -(2097153 * 9223372036854775808 + 1)) : n.1 = 2 ∧ n.2.1 = true := by
  rcases h with ⟨h1, _⟩ | ⟨h1, h2⟩ | ⟨h1, _⟩
  · unfold kv at hk; rw [mg_zero h1] at hk; exfalso; unfold sg at hk; split at hk <;> omega
  · have := mg_fin (n := n) (.inr (.inl ⟨h1, h2⟩)) h1
    unfold kv sg at hk; split at hk <;> omega
  · refine ⟨h1, ?_⟩
    rw [kv_inf h1] at hk
    cases hn : n.2.1
    · rw [hn] at hk; exact absurd hk (by decide)
    · rfl
theorem kv_pinf {n : Nm} (h : n.1 = 2) (hn : n.2.1 = false) : kv n = 2097153 * 9223372036854775808 + 1 := by rw [kv_inf h, hn]; rfl
theorem kv_ninf {n : Nm} (h : n.1 = 2) (hn : n.2.1 = true) : kv n = -(2097153 * 9223372036854775808 + 1) := by rw [kv_inf h, hn]; rfl
/-- Of a greater one the sum is not less. -/
theorem addv_mono {a b c : Nm} (ha : mayP a) (hb : mayP b) (hc : mayP c) (up : Bool) (h : kv a ≤ kv b) : kv (addv a c up) ≤ kv (addv b c up) := by
  have ba := kv_bd (addv_may up ha hc)
  have bb := kv_bd (addv_may up hb hc)
  have xa := kv_bd ha
  have xb := kv_bd hb
  by_cases c2 : c.1 = 2
  · cases hn : c.2.1
    · by_cases z : b.1 = 2 ∧ b.2.1 = true
      · have kb := kv_ninf z.1 z.2
        have za := ninf_of_kv ha (by omega)
        have : addv a c up = addv b c up := by
          unfold addv
          rw [if_pos ⟨za.1, c2, by rw [za.2, hn]; decide⟩, if_pos ⟨z.1, c2, by rw [z.2, hn]; decide⟩]
        rw [this]; omega
      · have : kv (addv b c up) = 2097153 * 9223372036854775808 + 1 := by
          unfold addv
          rw [if_neg (fun hh => z ⟨hh.1, by have := hh.2.2; rw [hn] at this; simpa using this⟩)]
          by_cases b2 : b.1 = 2
          · rw [if_pos (.inl b2)]
            exact kv_pinf b2 (by cases hb2 : b.2.1 <;> simp_all)
          · rw [if_neg (by omega), if_pos (.inl c2)]
            exact kv_pinf c2 hn
        omega
    · by_cases z : a.1 = 2 ∧ a.2.1 = false
      · have ka := kv_pinf z.1 z.2
        have zb := inf_of_kv hb (by omega)
        have : addv a c up = addv b c up := by
          unfold addv
          rw [if_pos ⟨z.1, c2, by rw [z.2, hn]; decide⟩, if_pos ⟨zb.1, c2, by rw [zb.2, hn]; decide⟩]
        rw [this]; omega
      · have : kv (addv a c up) = -(2097153 * 9223372036854775808 + 1) := by
          unfold addv
          rw [if_neg (fun hh => z ⟨hh.1, by have := hh.2.2; rw [hn] at this; simpa using this⟩)]
          by_cases a2 : a.1 = 2
          · rw [if_pos (.inl a2)]
            exact kv_ninf a2 (by cases ha2 : a.2.1 <;> simp_all)
          · rw [if_neg (by omega), if_pos (.inl c2)]
            exact kv_ninf c2 hn
        omega
  · have ei : ∀ {x : Nm}, x.1 = 2 → addv x c up = x := fun hx => by
      unfold addv
      rw [if_neg (fun hh => c2 hh.2.1), if_pos (.inl hx)]
    by_cases a2 : a.1 = 2
    · cases hn : a.2.1
      · have ka := kv_pinf a2 hn
        have zb := inf_of_kv hb (by omega)
        rw [ei a2, ei zb.1]
        exact h
      · rw [ei a2, kv_ninf a2 hn]; omega
    by_cases b2 : b.1 = 2
    · cases hn : b.2.1
      · rw [ei b2, kv_pinf b2 hn]; omega
      · have kb := kv_ninf b2 hn
        have za := ninf_of_kv ha (by omega)
        exact absurd za.1 a2
    obtain ⟨f, i, j, l, hi, hj, hl⟩ : ∃ (f : Int) (i j l : Nat), f = a.2.2.2 - i ∧ f = b.2.2.2 - j ∧ f = c.2.2.2 - l := ⟨min a.2.2.2 (min b.2.2.2 c.2.2.2), (a.2.2.2 - min a.2.2.2 (min b.2.2.2 c.2.2.2)).toNat, (b.2.2.2 - min a.2.2.2 (min b.2.2.2 c.2.2.2)).toNat, (c.2.2.2 - min a.2.2.2 (min b.2.2.2 c.2.2.2)).toNat, by omega, by omega, by omega⟩
    have v := val_le ha hb a2 b2 (i := i) (j := j) (by omega) h
    rw [← addv_gen ha hc a2 c2 up hi hl, ← addv_gen hb hc b2 c2 up hj hl]
    exact rnz_mono (by omega) f up
theorem rnz_updown (s e : Int) : kv (rnz s e false) ≤ kv (rnz s e true) := by
  have pos : ∀ s : Int, 0 < s → kv (rnz s e false) ≤ kv (rnz s e true) := fun s hs => by
    rw [rnz_pos hs, rnz_pos hs]
    obtain ⟨q, E, c, h⟩ := fit_ex e hs
    rw [rnd_fit h, rnd_fit h]
    obtain ⟨q0, q1, -⟩ := h
    have e1 : mg (grw false q E c false) = mg (bnd false q E false) := by unfold grw; rw [if_neg (by simp)]
    have e2 : mg (bnd false q E true) ≤ mg (grw false q E c true) := by
      have := grw_mono false false true (c := false) (c' := c) q0 q1 q0 q1 (E := E) (E' := E) (.inr ⟨rfl, .inr ⟨rfl, fun h => absurd h (by decide)⟩⟩)
      have e3 : grw false q E false true = bnd false q E true := by unfold grw; rw [if_neg (by simp)]
      rw [e3] at this
      exact this
    rw [e1]
    refine Int.le_trans ?_ e2
    rw [mg_bnd false q0 q1, mg_bnd false q0 q1]
    simp only [Bool.false_eq_true, if_false, if_true]
    (repeat' split) <;> omega
  by_cases h : 0 < s
  · exact pos s h
  · by_cases z : s = 0
    · subst z; exact Int.le_refl _
    · have := pos (-s) (by omega)
      have a := rnz_opp s e true
      have b := rnz_opp s e false
      rw [Bool.not_true] at a
      rw [Bool.not_false] at b
      omega
theorem addv_updown {a b : Nm} (ha : mayP a) (hb : mayP b) : kv (addv a b false) ≤ kv (addv a b true) := by
  unfold addv
  split
  · decide
  split
  · exact Int.le_refl _
  split
  · exact Int.le_refl _
  exact rnz_updown _ _
/-! Cmp and Sign -/
theorem sgn_kv {n : Nm} (h : mayP n) : num_Sign.f n.1 n.2.1 n.2.2.1 n.2.2.2 = some (sgn (kv n)) := by
  unfold num_Sign.f
  rw [nfair_eq _ _ _ _ (may_lt h), tup, fairv_of h, Option.bind_some]
  have hm : n.1 = 0 ∧ mg n = 0 ∨ n.1 ≠ 0 ∧ 0 < mg n := by
    rcases h with ⟨h1, _⟩ | ⟨h1, h2⟩ | ⟨h1, h2⟩
    · exact .inl ⟨h1, mg_zero h1⟩
    · have := mg_fin (n := n) (.inr (.inl ⟨h1, h2⟩)) h1; exact .inr ⟨by omega, by omega⟩
    · have := mg_inf h1; exact .inr ⟨by omega, by omega⟩
  unfold kv
  rcases hm with ⟨h1, h2⟩ | ⟨h1, h2⟩
  · rw [if_pos h1, h2]; cases n.2.1 <;> rfl
  · rw [if_neg h1]
    cases n.2.1
    · rw [if_neg (by decide), sgn_pos (by unfold sg; simpa using h2)]
    · rw [if_pos rfl, sgn_neg (by unfold sg; simp; omega)]
theorem far_eq {a b : Nm} (ha : mayP a) (hb : mayP b) : num_farther.f a.1 a.2.1 a.2.2.1 a.2.2.2 b.1 b.2.1 b.2.2.1 b.2.2.2 = some (decide (mg b < mg a)) := by
  unfold num_farther.f
  have ka : (a.1 = 0 ∧ mg a = 0 ∧ a.2.2.1 = 0 ∧ a.2.2.2 = 0) ∨ (a.1 = 1 ∧ mg a = (a.2.2.2 + 1048576) * 9223372036854775808 + (a.2.2.1 - 9223372036854775808) + 1 ∧ 9223372036854775808 ≤ a.2.2.1 ∧ a.2.2.1 < 18446744073709551616 ∧ 1 ≤ mg a ∧ mg a ≤ 2097153 * 9223372036854775808) ∨ (a.1 = 2 ∧ mg a = 2097153 * 9223372036854775808 + 1 ∧ a.2.2.1 = 0 ∧ a.2.2.2 = 0) := by
    rcases ha with ⟨h1, h2, h3, h4⟩ | ⟨h1, h2⟩ | ⟨h1, h3, h4⟩
    · exact .inl ⟨h1, mg_zero h1, h3, h4⟩
    · have := mg_fin (n := a) (.inr (.inl ⟨h1, h2⟩)) h1; exact .inr (.inl ⟨h1, this.1, h2.1, h2.2.1, this.2⟩)
    · exact .inr (.inr ⟨h1, mg_inf h1, h3, h4⟩)
  have kb : (b.1 = 0 ∧ mg b = 0 ∧ b.2.2.1 = 0 ∧ b.2.2.2 = 0) ∨ (b.1 = 1 ∧ mg b = (b.2.2.2 + 1048576) * 9223372036854775808 + (b.2.2.1 - 9223372036854775808) + 1 ∧ 9223372036854775808 ≤ b.2.2.1 ∧ b.2.2.1 < 18446744073709551616 ∧ 1 ≤ mg b ∧ mg b ≤ 2097153 * 9223372036854775808) ∨ (b.1 = 2 ∧ mg b = 2097153 * 9223372036854775808 + 1 ∧ b.2.2.1 = 0 ∧ b.2.2.2 = 0) := by
    rcases hb with ⟨h1, h2, h3, h4⟩ | ⟨h1, h2⟩ | ⟨h1, h3, h4⟩
    · exact .inl ⟨h1, mg_zero h1, h3, h4⟩
    · have := mg_fin (n := b) (.inr (.inl ⟨h1, h2⟩)) h1; exact .inr (.inl ⟨h1, this.1, h2.1, h2.2.1, this.2⟩)
    · exact .inr (.inr ⟨h1, mg_inf h1, h3, h4⟩)
  by_cases h1 : a.1 = b.1
  · rw [if_pos h1]
    by_cases h2 : a.2.2.2 = b.2.2.2
    · rw [if_pos h2]; congr 1; rw [decide_eq_decide]; omega
    · rw [if_neg h2]; congr 1; rw [decide_eq_decide]; omega
  · rw [if_neg h1]; congr 1; rw [decide_eq_decide]; omega
theorem cmp_g {a b : Nm} (ha : mayP a) (hb : mayP b) : num_Cmp.f a.1 a.2.1 a.2.2.1 a.2.2.2 b.1 b.2.1 b.2.2.1 b.2.2.2 = some (sgn (kv a - kv b)) := by
  unfold num_Cmp.f
  rw [nfair_eq _ _ _ _ (may_lt ha), tup, fairv_of ha, Option.bind_some, nfair_eq _ _ _ _ (may_lt hb), tup, fairv_of hb, Option.bind_some, sgn_kv ha, Option.bind_some, sgn_kv hb, Option.bind_some, far_eq ha hb, Option.bind_some, far_eq hb ha, Option.bind_some]
  have xa := mg_bd ha
  have xb := mg_bd hb
  have sgc : ∀ x : Int, (x < 0 ∧ sgn x = -1) ∨ (x = 0 ∧ sgn x = 0) ∨ (0 < x ∧ sgn x = 1) := fun x => by
    unfold sgn
    by_cases h : x < 0
    · exact .inl ⟨h, if_pos h⟩
    · by_cases h2 : 0 < x
      · exact .inr (.inr ⟨h2, by rw [if_neg h, if_pos h2]⟩)
      · exact .inr (.inl ⟨by omega, by rw [if_neg h, if_neg h2]⟩)
  have ca := sgc (kv a)
  have cb := sgc (kv b)
  have cc := sgc (kv a - kv b)
  have ka : kv a = mg a ∨ kv a = -mg a := by unfold kv sg; split <;> omega
  have kb : kv b = mg b ∨ kv b = -mg b := by unfold kv sg; split <;> omega
  by_cases h1 : sgn (kv a) < sgn (kv b)
  · rw [if_pos h1]; congr 1; omega
  rw [if_neg h1]
  by_cases h2 : sgn (kv a) > sgn (kv b)
  · rw [if_pos h2]; congr 1; omega
  rw [if_neg h2]
  by_cases h3 : mg b < mg a
  · rw [decide_eq_true h3, if_pos rfl]; congr 1; omega
  rw [decide_eq_false h3, if_neg (by decide)]
  by_cases h4 : mg a < mg b
  · rw [decide_eq_true h4, if_pos rfl, w64 (by omega) (by omega)]; congr 1; omega
  · rw [decide_eq_false h4, if_neg (by decide)]; congr 1; omega
theorem cmp_ss {x y : S30} (hx : ok30 x) (hy : ok30 y) : num_Cmp.f x.f0 x.f1 x.f2 x.f3 y.f0 y.f1 y.f2 y.f3 = some (sgn (kv (nm x) - kv (nm y))) := by
  rw [← cmp_g (nm_may x) (nm_may y)]
  unfold num_Cmp.f
  rw [nfair_eq _ _ _ _ (m_lt hx.2.2.1), nfair_eq _ _ _ _ (m_lt hy.2.2.1), nfair_eq _ _ _ _ (may_lt (nm_may x)), nfair_eq _ _ _ _ (may_lt (nm_may y)), tup, tup, fairv_of (nm_may x), fairv_of (nm_may y)]
  rfl
theorem sgn_s {x : S30} (hx : ok30 x) : num_Sign.f x.f0 x.f1 x.f2 x.f3 = some (sgn (kv (nm x))) := by
  rw [← sgn_kv (nm_may x)]
  unfold num_Sign.f
  rw [nfair_eq _ _ _ _ (m_lt hx.2.2.1), nfair_eq _ _ _ _ (may_lt (nm_may x)), tup, fairv_of (nm_may x)]
  rfl
end Go.Proofs.YtkemnoejpbknhaaDoor.T

namespace Go.Proofs.YtkemnoejpbknhaaDoor.T
set_option linter.unusedVariables false
set_option linter.unusedSimpArgs false
open Go.RowKit Go.Proofs.YtkemnoejpbknhaaDoorW.PrintWords Go.Proofs.YtkemnoejpbknhaaDoorW.PrintMore Go.Proofs.YtkemnoejpbknhaaDoor.PA

/-- A number as a sign and limbs. -/
def nw (s : Int) : Bool × List Int := (decide (s < 0), lim s.natAbs)
theorem nw_U (s : Int) : U (nw s).2 := U_lim (by omega)
theorem nw_sg (s : Int) : sg (nw s).1 (val (nw s).2) = s := by
  unfold nw
  simp only
  rw [val_lim (by omega)]
  exact sg_of s
theorem nw_of (neg : Bool) {v : Int} (hv : 0 ≤ v) : (neg && decide (v ≠ 0), lim v) = nw (sg neg v) := by
  unfold nw
  rw [sg_abs neg hv]
  congr 1
  unfold sg
  cases neg
  · simp only [Bool.false_and, Bool.false_eq_true, if_false]; exact (decide_eq_false (by omega)).symm
  · simp only [Bool.true_and, if_true]; rw [decide_eq_decide]; omega
/-- No longer than so many limbs. -/
def B (s : Int) (L : Nat) : Prop := (s.natAbs : Int) < pw L
theorem B_of (neg : Bool) {l : List Int} (h : U l) {L : Nat} (hl : l.length ≤ L) : B (sg neg (val l)) L := by
  unfold B
  rw [sg_abs neg (val_nonneg h)]
  exact Int.lt_of_lt_of_le (val_lt h) (pw_mono hl)
theorem B_len {s : Int} {L : Nat} (h : B s L) : (nw s).2.length ≤ L := lim_len (by omega) L h
theorem B_add {s t : Int} {L M : Nat} (hs : B s L) (ht : B t M) : B (s + t) (max L M + 1) := by
  unfold B at *
  have h5 := pw_mono (show L ≤ max L M by omega)
  have h6 := pw_mono (show M ≤ max L M by omega)
  rw [pw_succ]
  omega
theorem B_neg {s : Int} {L : Nat} (h : B s L) : B (-s) L := by unfold B at *; rw [Int.natAbs_neg]; exact h
theorem B_mul {s t : Int} {L M : Nat} (hs : B s L) (ht : B t M) : B (s * t) (L + M) := by
  unfold B at *
  rw [Int.natAbs_mul, Int.natCast_mul, pw_add]
  have p := pw_pos L
  have e1 := Int.mul_le_mul_of_nonneg_right (show (s.natAbs : Int) ≤ pw L by omega) (show (0 : Int) ≤ t.natAbs by omega)
  have e2 := Int.mul_lt_mul_of_pos_left ht p
  omega
theorem B_mono {s : Int} {L M : Nat} (h : B s L) (hm : L ≤ M) : B s M := Int.lt_of_lt_of_le h (pw_mono hm)
theorem B_le {s t : Int} {L : Nat} (h : B t L) (hs : s.natAbs ≤ t.natAbs) : B s L := by unfold B at *; omega
theorem make_ev (neg : Bool) (l : List Int) (h : U l) (hb : l.length ≤ 1073741824) : ∃ K, ∀ k, K ≤ k → whole_Make.f k neg l = some (nw (sg neg (val l))) := by
  obtain ⟨K, hK⟩ := trim_ev l h hb
  refine ⟨K, fun k hk => ?_⟩
  have hn := val_nonneg h
  rw [← nw_of neg hn]
  unfold whole_Make.f
  rw [hK k hk, Option.bind_some]
  cases neg
  · rfl
  · rw [if_pos rfl]
    congr 2
    rw [Bool.true_and, decide_eq_decide]
    have := lim_nil_iff hn
    omega
theorem rmake_ev (neg : Bool) (l : List Int) (h : U l) (hb : l.length ≤ 1073741824) : ∃ K, ∀ k, K ≤ k → pelorusref02_Make.f k neg l = some (nw (sg neg (val l))) := by
  obtain ⟨K, hK⟩ := rtrim_ev l h hb
  refine ⟨K, fun k hk => ?_⟩
  have hn := val_nonneg h
  rw [← nw_of neg hn]
  unfold pelorusref02_Make.f
  rw [hK k hk, Option.bind_some]
  cases neg
  · rfl
  · rw [if_pos rfl]
    congr 2
    rw [Bool.true_and, decide_eq_decide]
    have := lim_nil_iff hn
    omega
theorem sgn_sg (neg : Bool) {v : Int} (hv : 0 ≤ v) : sgn (sg neg v) = if v = 0 then 0 else if neg = true then -1 else 1 := by
  unfold sg
  by_cases h : v = 0
  · rw [if_pos h, h]; cases neg <;> rfl
  · rw [if_neg h]
    cases neg
    · exact sgn_pos (by simpa using (by omega : 0 < v))
    · exact sgn_neg (by simp only [if_true]; omega)
theorem sign_ev (neg : Bool) (l : List Int) (h : U l) (hb : l.length ≤ 1073741824) : ∃ K, ∀ k, K ≤ k → whole_Sign.f k neg l = some (sgn (sg neg (val l))) := by
  obtain ⟨K, hK⟩ := len_ev l h hb
  refine ⟨K, fun k hk => ?_⟩
  have hn := val_nonneg h
  unfold whole_Sign.f
  rw [hK k hk, Option.bind_some, sgn_sg neg hn]
  by_cases z : val l = 0
  · rw [z, if_pos rfl, if_pos bl_zero]
  · have := bl_pos (n := val l) (by omega)
    rw [if_neg (by omega), if_neg z]
    cases neg <;> rfl
theorem rfrom_ev (a : Int) (h0 : -9223372036854775808 ≤ a) (h1 : a ≤ 9223372036854775807) : ∃ K, ∀ k, K ≤ k → pelorusref02_From.f k a = some (nw a) := by
  have w : ∀ x : Int, IntKind.u64.wrap x = x % 18446744073709551616 := fun x => by rw [IntKind.wrap_u64]
  have key : ∀ u : Int, u = a.natAbs → ∃ K, ∀ k, K ≤ k → pelorusref02_Make.f k (decide (a < 0)) [Int.tmod u 4294967296 % 4294967296, (IntKind.u64.wrap (Int.tdiv u 4294967296)) % 4294967296] = some (nw a) := fun u hu => by
    rw [Int.tmod_eq_emod_of_nonneg (by omega), Int.tdiv_eq_ediv_of_nonneg (by omega), w]
    obtain ⟨K, hK⟩ := rmake_ev (decide (a < 0)) [u % 4294967296 % 4294967296, u / 4294967296 % 18446744073709551616 % 4294967296] (by simp [U]; omega) (by simp)
    have e : val [u % 4294967296 % 4294967296, u / 4294967296 % 18446744073709551616 % 4294967296] = a.natAbs := by simp; omega
    rw [e, sg_of] at hK
    exact ⟨K, hK⟩
  by_cases z : a < 0
  · obtain ⟨K, hK⟩ := key (IntKind.u64.wrap ((IntKind.u64.wrap (wrap64 (-(wrap64 (a + 1))))) + 1)) (by rw [w64 (x := a + 1) (by omega) (by omega), w64 (by omega) (by omega), w, w]; omega)
    refine ⟨K, fun k hk => ?_⟩
    unfold pelorusref02_From.f
    rw [if_pos z, hK k hk, Option.bind_some]
  · obtain ⟨K, hK⟩ := key (IntKind.u64.wrap a) (by rw [w]; omega)
    refine ⟨K, fun k hk => ?_⟩
    unfold pelorusref02_From.f
    rw [if_neg z, hK k hk, Option.bind_some]
theorem neg_ev (b : Bool) (l : List Int) (h : U l) (hb : l.length ≤ 1073741824) : ∃ K, ∀ k, K ≤ k → whole_Neg.f k b l = some (nw (-sg b (val l))) := by
  obtain ⟨K, hK⟩ := make_ev (!b) l h hb
  refine ⟨K, fun k hk => ?_⟩
  unfold whole_Neg.f
  rw [hK k hk, Option.bind_some, sg_neg]
theorem addw_ev (b c : Bool) (l m : List Int) (hl : U l) (hm : U m) (bl : l.length ≤ 100000000) (bm : m.length ≤ 100000000) : ∃ K, ∀ k, K ≤ k → whole_Add.f k b l c m = some (nw (sg b (val l) + sg c (val m))) := by
  have nl := val_nonneg hl
  have nm := val_nonneg hm
  have ll := val_lt hl
  have lm := val_lt hm
  by_cases h : b = c
  · subst h
    obtain ⟨K1, a⟩ := add_ev l m hl hm (by omega) (by omega)
    obtain ⟨K2, d⟩ := make_ev b (lim (val l + val m)) (U_lim (by omega)) (by have := B_len (B_add (B_of false hl (Nat.le_refl _)) (B_of false hm (Nat.le_refl _))); simp only [sg, nw, Bool.false_eq_true, if_false] at this; rw [Int.natAbs_of_nonneg (by omega)] at this; omega)
    rw [val_lim (by omega)] at d
    refine ⟨K1 + K2, fun k hk => ?_⟩
    unfold whole_Add.f
    rw [if_pos (by simp), a k (by omega), Option.bind_some, d k (by omega), Option.bind_some]
    have e : sg b (val l + val m) = sg b (val l) + sg b (val m) := by unfold sg; split <;> omega
    rw [e]
  · have hq : ¬ (b == c) = true := by simpa using h
    have hc : c = !b := by cases b <;> cases c <;> simp_all
    obtain ⟨K1, a⟩ := sub_ev l m hl hm (by omega) (by omega)
    by_cases hlt : val l < val m
    · obtain ⟨K2, a2⟩ := sub_ev m l hm hl (by omega) (by omega)
      rw [if_neg (by omega)] at a2
      rw [if_pos hlt] at a
      obtain ⟨K3, d⟩ := make_ev c (lim (val m - val l)) (U_lim (by omega)) (by have := lim_len (n := val m - val l) (by omega) m.length (by omega); omega)
      rw [val_lim (by omega)] at d
      refine ⟨K1 + K2 + K3, fun k hk => ?_⟩
      unfold whole_Add.f
      rw [if_neg hq, a k (by omega), Option.bind_some, if_neg (by decide), a2 k (by omega), Option.bind_some]
      simp only
      rw [d k (by omega), Option.bind_some]
      have e : sg c (val m - val l) = sg b (val l) + sg c (val m) := by subst hc; unfold sg; cases b <;> simp <;> omega
      rw [e]
    · rw [if_neg hlt] at a
      obtain ⟨K3, d⟩ := make_ev b (lim (val l - val m)) (U_lim (by omega)) (by have := lim_len (n := val l - val m) (by omega) l.length (by omega); omega)
      rw [val_lim (by omega)] at d
      refine ⟨K1 + K3, fun k hk => ?_⟩
      unfold whole_Add.f
      rw [if_neg hq, a k (by omega), Option.bind_some, if_pos rfl]
      simp only
      rw [d k (by omega), Option.bind_some]
      have e : sg b (val l - val m) = sg b (val l) + sg c (val m) := by subst hc; unfold sg; cases b <;> simp <;> omega
      rw [e]
theorem alike_ev (p : Bool × List Int) (hl : p.2.length ≤ 4611686018427387903) : ∃ K, ∀ k, K ≤ k → pelorusref02_Alike.f k p.1 p.2 p.1 p.2 = some true := by
  obtain ⟨K, h⟩ := rsame_ev p.2 hl
  refine ⟨K, fun k hk => ?_⟩
  unfold pelorusref02_Alike.f
  rw [h k hk, Option.bind_some, if_pos rfl]
  simp
end Go.Proofs.YtkemnoejpbknhaaDoor.T

namespace Go.Proofs.YtkemnoejpbknhaaDoor.T
set_option linter.unusedVariables false
set_option linter.unusedSimpArgs false
open Go.RowKit Go.Proofs.YtkemnoejpbknhaaDoorW.PrintWords Go.Proofs.YtkemnoejpbknhaaDoorW.PrintMore Go.Proofs.YtkemnoejpbknhaaDoor.PA

theorem sg_mul (n n' : Bool) (v v' : Int) : sg (n != n') (v * v') = sg n v * sg n' v' := by
  unfold sg
  cases n <;> cases n' <;> simp [Int.neg_mul, Int.mul_neg]
/-- The product of many. -/
def prodS (l : List S24) : Int := l.foldr (fun x p => sg x.f0 (val x.f1) * p) 1
theorem prodS_cons (x : S24) (l : List S24) : prodS (x :: l) = sg x.f0 (val x.f1) * prodS l := rfl
theorem drop_at {l : List S24} {i : Nat} (h : i < l.length) : l.drop i = l.getD i z24 :: l.drop (i + 1) := by
  rw [List.drop_eq_getElem_cons h, List.getD_eq_getElem?_getD, List.getElem?_eq_getElem h]
  rfl
theorem mem_at {l : List S24} {i : Nat} (h : i < l.length) : l.getD i z24 ∈ l := by
  rw [List.getD_eq_getElem?_getD, List.getElem?_eq_getElem h]
  exact List.getElem_mem h
theorem rd_at (l : List S24) (i : Nat) : rd_T24 l (i : Int) = l.getD i z24 := rfl
/-! quotients -/
/-- The quotient, rounded down, and what is left, of numbers with signs: s with the sign b, t. -/
def divw (b c : Bool) (v w : Int) : Int × Int :=
  if sgn (sg b (v % w)) * sgn (sg c w) < 0 then (sg (b != c) (v / w) - 1, sg b (v % w) + sg c w) else (sg (b != c) (v / w), sg b (v % w))
theorem sgn_cases (x : Int) : (x < 0 ∧ sgn x = -1) ∨ (x = 0 ∧ sgn x = 0) ∨ (0 < x ∧ sgn x = 1) := by
  unfold sgn
  by_cases h : x < 0
  · exact .inl ⟨h, if_pos h⟩
  · by_cases h2 : 0 < x
    · exact .inr (.inr ⟨h2, by rw [if_neg h, if_pos h2]⟩)
    · exact .inr (.inl ⟨by omega, by rw [if_neg h, if_neg h2]⟩)
theorem B_small {s : Int} (h : s.natAbs < 4294967296) : B s 1 := by unfold B; rw [show pw 1 = 4294967296 by decide]; omega
end Go.Proofs.YtkemnoejpbknhaaDoor.T

namespace Go.Proofs.YtkemnoejpbknhaaDoor.T
set_option linter.unusedVariables false
set_option linter.unusedSimpArgs false
open Go.RowKit Go.Proofs.YtkemnoejpbknhaaDoorW.PrintWords Go.Proofs.YtkemnoejpbknhaaDoorW.PrintMore Go.Proofs.YtkemnoejpbknhaaDoor.PA

theorem bits_and_nat (a b : Nat) (ha : a < 4294967296) (hb : b < 4294967296) : Go.bits .and .u32 a b = ((a &&& b : Nat) : Int) := by
  have ha' : a % 2 ^ IntKind.u32.bits = a := Nat.mod_eq_of_lt ha
  have hb' : b % 2 ^ IntKind.u32.bits = b := Nat.mod_eq_of_lt hb
  simp only [Go.bits, BitVec.ofInt_natCast, BitVec.toNat_and, BitVec.toNat_ofNat, ha', hb']
  exact wraps_u32 _ (Int.natCast_nonneg _) (by have := Nat.and_le_left (n := a) (m := b); omega)
theorem land_tz {o t : Nat} (ho : o % 2 = 1) (h : o * 2 ^ t < 2 ^ 32) : (o * 2 ^ t) &&& (2 ^ 32 - o * 2 ^ t) = 2 ^ t := by
  obtain ⟨y, hy⟩ : ∃ y, o * 2 ^ t = y + 1 := ⟨o * 2 ^ t - 1, by have := Nat.mul_pos (show 0 < o by omega) (Nat.two_pow_pos t); omega⟩
  have hy2 : y = 2 ^ t * (o - 1) + (2 ^ t - 1) := by
    have p := Nat.two_pow_pos t
    have e : 2 ^ t * (o - 1) + 2 ^ t = o * 2 ^ t := by
      obtain ⟨q, rfl⟩ : ∃ q, o = q + 1 := ⟨o - 1, by omega⟩
      rw [Nat.add_sub_cancel, Nat.add_mul, Nat.one_mul, Nat.mul_comm]
    omega
  apply Nat.eq_of_testBit_eq
  intro i
  have b1 : (2 ^ 32 - o * 2 ^ t).testBit i = (decide (i < 32) && !y.testBit i) := by
    rw [hy]
    exact Nat.testBit_two_pow_sub_succ (by omega) i
  rw [Nat.testBit_and, b1, Nat.testBit_mul_two_pow, Nat.testBit_two_pow, hy2, Nat.testBit_two_pow_mul_add _ (by have := Nat.two_pow_pos t; omega)]
  have i32 : t < 32 := by
    apply Nat.lt_of_not_le
    intro hh
    have := Nat.mul_le_mul (show 1 ≤ o by omega) (Nat.pow_le_pow_right (show 0 < 2 by decide) hh)
    omega
  by_cases h1 : i < t
  · rw [decide_eq_false (show ¬ t ≤ i by omega), decide_eq_false (show ¬ t = i by omega)]
    simp
  · rw [if_neg h1, decide_eq_true (show t ≤ i by omega), Bool.true_and]
    by_cases h2 : i = t
    · subst h2
      rw [decide_eq_true rfl, Nat.sub_self, decide_eq_true i32, Nat.testBit_zero, Nat.testBit_zero, decide_eq_true ho, decide_eq_false (show ¬ (o - 1) % 2 = 1 by omega)]
      rfl
    · rw [decide_eq_false (show ¬ t = i by omega)]
      obtain ⟨m, hm⟩ : ∃ m, i - t = m + 1 := ⟨i - t - 1, by omega⟩
      rw [hm, Nat.testBit_succ, Nat.testBit_succ, show (o - 1) / 2 = o / 2 by omega]
      cases (o / 2).testBit m <;> simp
theorem tz_tab : ∀ t : Fin 32, tz32tab.getD ((((2 ^ t.val : Nat) : Int) * 125613361 % 4294967296 / 134217728).toNat) 0 = (t.val : Int) ∧ 0 ≤ ((2 ^ t.val : Nat) : Int) * 125613361 % 4294967296 / 134217728 ∧ ((2 ^ t.val : Nat) : Int) * 125613361 % 4294967296 / 134217728 < 32 := by decide +kernel
theorem lt_32 {o : Int} {t : Nat} (o0 : 0 < o) (h : o * 2 ^ t < 4294967296) : t < 32 := by
  apply Nat.lt_of_not_le
  intro hh
  have h1 := p2_mono hh
  have h2 := mul_le_p t (show 1 ≤ o by omega)
  rw [show (2 : Int) ^ 32 = 4294967296 by decide] at h1
  omega
/-- How many noughts there are at a limb's end. -/
theorem tz_limb {x o : Int} {t : Nat} (o0 : 0 < o) (o1 : o % 2 = 1) (hx : x = o * 2 ^ t) (h1 : x < 4294967296) : bits_TrailingZeros32.f x = some (t : Int) := by
  have t32 : t < 32 := lt_32 o0 (by omega)
  obtain ⟨n, rfl⟩ := Int.eq_ofNat_of_zero_le (show 0 ≤ o by omega)
  have hxn : x = ((n * 2 ^ t : Nat) : Int) := by rw [hx]; push_cast; rfl
  have hn1 : n * 2 ^ t < 4294967296 := by omega
  have p := Nat.mul_pos (show 0 < n by omega) (Nat.two_pow_pos t)
  have hand : Go.bits .and .u32 x (-x % 4294967296) = ((2 ^ t : Nat) : Int) := by
    rw [hxn, show -((n * 2 ^ t : Nat) : Int) % 4294967296 = ((4294967296 - n * 2 ^ t : Nat) : Int) by omega, bits_and_nat _ _ hn1 (by omega)]
    congr 1
    exact land_tz (by omega) hn1
  have hix : tz32ix x = ((2 ^ t : Nat) : Int) * 125613361 % 4294967296 / 134217728 := by unfold tz32ix; rw [hand]
  obtain ⟨c0, c1, c2⟩ := tz_tab ⟨t, t32⟩
  unfold bits_TrailingZeros32.f
  rw [if_neg (by omega), hix, if_pos ⟨c1, c2⟩, c0, w64_nat (by omega)]
/-- How many noughts there are at a number's end. -/
theorem trail_l0 (l : List Int) (h : U l) (hb : l.length ≤ 1073741824) (n : Nat) : ∀ (i : Nat) (o : Int) (t : Nat), n + i = l.length → 0 < o → o % 2 = 1 → val (l.drop i) = o * 2 ^ t →
    ∃ K, ∀ k, K ≤ k → dy_trailing.l0 k ((32 * i : Nat) : Int) l (l.length : Int) (i : Int) = some ((32 * i + t : Nat) : Int) := by
  induction n with
  | zero =>
    intro i o t hi o0 o1 hv
    rw [show i = l.length by omega, List.drop_length, val_nil] at hv
    have := Int.mul_pos o0 (p2_pos t)
    omega
  | succ n ih =>
    intro i o t hi o0 o1 hv
    have hv0 := hv
    rw [val_drop (by omega)] at hv
    obtain ⟨g0, g1⟩ := U_getD h i
    by_cases hz : l.getD i 0 = 0
    · rw [hz, Int.zero_add] at hv
      have ht : 32 ≤ t := by
        apply Nat.le_of_not_lt
        intro hh
        have e : (4294967296 : Int) = 2 ^ (32 - t) * 2 ^ t := by rw [← p2_add, show 32 - t + t = 32 by omega]; decide
        rw [e, Int.mul_assoc, Int.mul_comm (2 ^ t), ← Int.mul_assoc] at hv
        have := eq_of_p t hv
        rw [show 32 - t = (31 - t) + 1 by omega, p2_succ, Int.mul_assoc] at this
        omega
      obtain ⟨m, rfl⟩ : ∃ m, t = m + 32 := ⟨t - 32, by omega⟩
      have hv2 : val (l.drop (i + 1)) = o * 2 ^ m := by
        rw [p2_add, show (2 : Int) ^ 32 = 4294967296 by decide, ← Int.mul_assoc] at hv
        omega
      obtain ⟨K, hK⟩ := ih (i + 1) o m (by omega) o0 o1 hv2
      refine ⟨K + 1, fun k hk => ?_⟩
      obtain ⟨k, rfl⟩ : ∃ m, k = m + 1 := ⟨k - 1, by omega⟩
      simp only [dy_trailing.l0]
      rw [if_pos (by omega), if_pos (by omega), if_pos (by omega), rd_eq, Int.toNat_natCast, if_pos hz, w64_succ (by omega), show wrap64 (((32 * i : Nat) : Int) + 32) = ((32 * (i + 1) : Nat) : Int) by rw [w64 (by omega) (by omega)]; omega, hK k (by omega)]
      congr 2
      omega
    · obtain ⟨o', ho'⟩ : ∃ o' : Int, 0 < o' ∧ o' % 2 = 1 ∧ l.getD i 0 = o' * 2 ^ t := by
        have ht : t < 32 := by
          apply Nat.lt_of_not_le
          intro hh
          obtain ⟨m, rfl⟩ : ∃ m, t = m + 32 := ⟨t - 32, by omega⟩
          rw [p2_add, show (2 : Int) ^ 32 = 4294967296 by decide, ← Int.mul_assoc] at hv
          omega
        have e : (4294967296 : Int) = 2 ^ (32 - t) * 2 ^ t := by rw [← p2_add, show 32 - t + t = 32 by omega]; decide
        have e1 : l.getD i 0 = (o - 2 ^ (32 - t) * val (l.drop (i + 1))) * 2 ^ t := by
          rw [Int.sub_mul, ← hv, Int.mul_assoc, Int.mul_comm (val _), ← Int.mul_assoc, ← e]
          omega
        refine ⟨_, pos_of_p t (by rw [← e1]; omega), ?_, e1⟩
        rw [show 32 - t = (31 - t) + 1 by omega, p2_succ, Int.mul_assoc]
        omega
      obtain ⟨q0, q1, q2⟩ := ho'
      refine ⟨1, fun k hk => ?_⟩
      obtain ⟨k, rfl⟩ : ∃ m, k = m + 1 := ⟨k - 1, by omega⟩
      have t32 : t < 32 := lt_32 q0 (by omega)
      simp only [dy_trailing.l0]
      rw [if_pos (by omega), if_pos (by omega), if_pos (by omega), rd_eq, Int.toNat_natCast, if_neg hz, tz_limb q0 q1 q2 g1, Option.bind_some, w64_add (by omega)]
theorem trail_ev (l : List Int) (h : U l) (hb : l.length ≤ 1073741824) {o : Int} {t : Nat} (o0 : 0 < o) (o1 : o % 2 = 1) (hv : val l = o * 2 ^ t) : ∃ K, ∀ k, K ≤ k → dy_trailing.f k l = some (t : Int) := by
  obtain ⟨K, hK⟩ := trail_l0 l h hb l.length 0 o t (by omega) o0 o1 (by simpa using hv)
  refine ⟨K, fun k hk => ?_⟩
  have := hK k hk
  unfold dy_trailing.f
  simpa using this
/-- A number's odd part, and how many noughts are at its end. -/
theorem odd_ex {v : Int} (h : 0 < v) : ∃ (o : Int) (t : Nat), 0 < o ∧ o % 2 = 1 ∧ v = o * 2 ^ t := by
  obtain ⟨n, hn⟩ : ∃ n : Nat, n = v.toNat := ⟨_, rfl⟩
  induction n using Nat.strongRecOn generalizing v with
  | ind n ih =>
    by_cases h2 : v % 2 = 1
    · exact ⟨v, 0, h, h2, by simp⟩
    · obtain ⟨o, t, o0, o1, ho⟩ := ih (v / 2).toNat (by omega) (v := v / 2) (by omega) rfl
      refine ⟨o, t + 1, o0, o1, ?_⟩
      rw [p2_succ, ← Int.mul_assoc, Int.mul_comm o 2, Int.mul_assoc, ← ho]
      omega
theorem odd_un {o o' : Int} {t t' : Nat} (o1 : o % 2 = 1) (o1' : o' % 2 = 1) (h : o * 2 ^ t = o' * 2 ^ t') : o = o' ∧ t = t' := by
  have key : ∀ {a b : Int} {s u : Nat}, a % 2 = 1 → a * 2 ^ s = b * 2 ^ u → u ≤ s := by
    intro a b s u ha hh
    apply Nat.le_of_not_lt
    intro hl
    obtain ⟨m, rfl⟩ : ∃ m, u = (m + 1) + s := ⟨u - s - 1, by omega⟩
    rw [p2_add, ← Int.mul_assoc] at hh
    have := eq_of_p s hh
    rw [p2_succ] at this
    have e : b * (2 * 2 ^ m) = 2 * (b * 2 ^ m) := by rw [← Int.mul_assoc, Int.mul_comm b 2, Int.mul_assoc]
    omega
  have e : t = t' := Nat.le_antisymm (key o1' h.symm) (key o1 h)
  subst e
  exact ⟨eq_of_p t h, rfl⟩
end Go.Proofs.YtkemnoejpbknhaaDoor.T

namespace Go.Proofs.YtkemnoejpbknhaaDoor.T
set_option linter.unusedVariables false
set_option linter.unusedSimpArgs false
open Go.RowKit Go.Proofs.YtkemnoejpbknhaaDoorW.PrintWords Go.Proofs.YtkemnoejpbknhaaDoorW.PrintMore Go.Proofs.YtkemnoejpbknhaaDoor.PA

/-- May a number be? -/
def mayw (b : Bool) (l : List Int) : Bool := if l.length = 0 then !b else (l.getD (l.length - 1) 0 != 0)
theorem wmay_eq (b : Bool) (l : List Int) (hb : l.length ≤ 1073741824) : whole_May.f b l = some (mayw b l) := by
  unfold whole_May.f mayw
  by_cases h : l.length = 0
  · rw [if_pos (by omega), if_pos h]
  · have w : wrap64 ((l.length : Int) - 1) = ((l.length - 1 : Nat) : Int) := w64_pred (by omega) (by omega)
    rw [if_neg (by omega), if_neg h, w, if_pos (by omega), if_pos (by omega), rd_eq, Int.toNat_natCast]
/-- Which number s * 2^e is, as the document has it: with odd limbs, or nought where an exponent is too far. -/
def Dv (d : Dd) (s e : Int) : Prop := (s = 0 ∧ d = (false, [], 0)) ∨ ∃ (o : Int) (t : Nat), 0 < o ∧ o % 2 = 1 ∧ s ≠ 0 ∧ (s.natAbs : Int) = o * 2 ^ t ∧
  d = if -4194304 ≤ e ∧ e ≤ 4194304 ∧ e + t ≤ 4194304 then (decide (s < 0), lim o, e + t) else (false, [], 0)
theorem Dv.ex (s e : Int) : ∃ d, Dv d s e := by
  by_cases h : s = 0
  · exact ⟨_, .inl ⟨h, rfl⟩⟩
  · obtain ⟨o, t, o0, o1, ho⟩ := odd_ex (v := s.natAbs) (by omega)
    exact ⟨_, .inr ⟨o, t, o0, o1, h, ho, rfl⟩⟩
theorem Dv.un {d d' : Dd} {s e : Int} (h : Dv d s e) (h' : Dv d' s e) : d = d' := by
  rcases h with ⟨h0, h⟩ | ⟨o, t, o0, o1, s0, hs, h⟩ <;> rcases h' with ⟨h0', h'⟩ | ⟨o', t', o0', o1', s0', hs', h'⟩
  · rw [h, h']
  · exact absurd h0 s0'
  · exact absurd h0' s0
  · obtain ⟨rfl, rfl⟩ := odd_un o1 o1' (hs.symm.trans hs')
    rw [h, h']
/-- What is made once is not turned by making it again. -/
theorem Dv.again {d : Dd} {s e : Int} (h : Dv d s e) : Dv d (sg d.1 (val d.2.1)) d.2.2 := by
  rcases h with ⟨h0, rfl⟩ | ⟨o, t, o0, o1, s0, hs, rfl⟩
  · exact .inl ⟨rfl, rfl⟩
  · split
    · rename_i hc
      simp only
      rw [val_lim (by omega)]
      refine .inr ⟨o, 0, o0, o1, sg_ne _ o0, by rw [sg_abs _ (by omega)]; simp, ?_⟩
      rw [if_pos ⟨by omega, by omega, by omega⟩, sg_lt _ o0]
      simp
    · exact .inl ⟨rfl, rfl⟩
theorem Dv.U {d : Dd} {s e : Int} (h : Dv d s e) : U d.2.1 := by
  rcases h with ⟨h0, rfl⟩ | ⟨o, t, o0, o1, s0, hs, rfl⟩
  · exact U_nil
  · split
    · exact U_lim (by omega)
    · exact U_nil
theorem Dv.le {d : Dd} {s e : Int} (h : Dv d s e) : val d.2.1 ≤ s.natAbs := by
  rcases h with ⟨h0, rfl⟩ | ⟨o, t, o0, o1, s0, hs, rfl⟩
  · simp
  · split
    · simp only
      rw [val_lim (by omega), hs]
      have := Int.mul_le_mul_of_nonneg_left (show 1 ≤ (2 : Int) ^ t by have := p2_pos t; omega) (show 0 ≤ o by omega)
      omega
    · simp
theorem Dv.len {d : Dd} {s e : Int} {L : Nat} (h : Dv d s e) (hb : B s L) : d.2.1.length ≤ L := by
  have l := h.le
  rcases h with ⟨h0, rfl⟩ | ⟨o, t, o0, o1, s0, hs, rfl⟩
  · simp
  · split at l
    · rename_i hc
      rw [if_pos hc]
      simp only at l ⊢
      rw [val_lim (by omega)] at l
      exact lim_len (by omega) _ (Int.lt_of_le_of_lt l hb)
    · rename_i hc
      rw [if_neg hc]; simp
theorem Dv.E {d : Dd} {s e : Int} (h : Dv d s e) : -4194304 ≤ d.2.2 ∧ d.2.2 ≤ 4194304 := by
  rcases h with ⟨h0, rfl⟩ | ⟨o, t, o0, o1, s0, hs, rfl⟩
  · simp
  · split
    · simp only; omega
    · simp
/-- One that is no nought: its odd limbs. -/
theorem Dv.odd {d : Dd} {s e : Int} (h : Dv d s e) : d = (false, [], 0) ∨ ∃ o : Int, 0 < o ∧ o % 2 = 1 ∧ d.2.1 = lim o := by
  rcases h with ⟨h0, rfl⟩ | ⟨o, t, o0, o1, s0, hs, rfl⟩
  · exact .inl rfl
  · split
    · exact .inr ⟨o, o0, o1, rfl⟩
    · exact .inl rfl
theorem within_eq (e : Int) : dy_within.f e = some (decide (-4194304 ≤ e ∧ e ≤ 4194304)) := by
  unfold dy_within.f
  by_cases h : e ≥ -4194304
  · rw [if_pos h]; congr 1; exact decide_eq_decide.2 ⟨fun h2 => ⟨h, h2⟩, fun h2 => h2.2⟩
  · rw [if_neg h, decide_eq_false (fun h2 => h h2.1)]
theorem sgn_ne {x : Int} (h : x ≠ 0) : sgn x ≠ 0 := by
  rcases Int.lt_trichotomy x 0 with h1 | h1 | h1
  · rw [sgn_neg h1]; decide
  · exact absurd h1 h
  · rw [sgn_pos h1]; decide
theorem t_le {l : List Int} (h : U l) {o : Int} {t : Nat} (o0 : 0 < o) (hv : val l = o * 2 ^ t) : t ≤ 32 * l.length := by
  apply Nat.le_of_not_lt
  intro hh
  have h1 := val_lt h
  rw [p2_limb] at h1
  have h2 := p2_mono (show 32 * l.length ≤ t by omega)
  have h3 := mul_le_p t (show 1 ≤ o by omega)
  omega
theorem shr_odd {o : Int} {t : Nat} (o0 : 0 < o) : shrv (o * 2 ^ t) t = o := by
  unfold shrv
  by_cases h : (t : Int) < 1
  · rw [if_pos h, show t = 0 by omega]; simp
  · rw [if_neg h, Int.toNat_natCast, Int.mul_ediv_cancel _ (by have := p2_pos t; omega)]
theorem mk_ev (neg : Bool) (l : List Int) (e : Int) (h : U l) (hb : l.length ≤ 100000000) {d : Dd} (hd : Dv d (sg neg (val l)) e) : ∃ K, ∀ k, K ≤ k → dy_Make.f k neg l e = some d := by
  obtain ⟨K1, h1⟩ := sign_ev neg l h (by omega)
  have hn := val_nonneg h
  rcases hd with ⟨hs, rfl⟩ | ⟨o, t, o0, o1, s0, hs, rfl⟩
  · refine ⟨K1 + 1, fun k hk => ?_⟩
    obtain ⟨k, rfl⟩ : ∃ m, k = m + 1 := ⟨k - 1, by omega⟩
    unfold dy_Make.f
    rw [h1 _ (by omega), Option.bind_some, hs, if_pos sgn_zero]
    simp [dy_Make.j0]
  · have s1 := sgn_ne s0
    rw [sg_abs neg hn] at hs
    have v0 : 0 < val l := by rw [hs]; exact Int.mul_pos o0 (p2_pos t)
    have tl := t_le h o0 hs
    have tE : wrap64 (e + (t : Int)) = e + t ∨ ¬ (-4194304 ≤ e ∧ e ≤ 4194304) := by
      by_cases hw : -4194304 ≤ e ∧ e ≤ 4194304
      · left; exact w64 (by omega) (by omega)
      · right; exact hw
    obtain ⟨K2, h2⟩ := trail_ev l h (by omega) o0 o1 hs
    obtain ⟨K3, h3⟩ := shr_ev l t h (by omega)
    rw [hs, shr_odd o0] at h3
    have lo : (lim o).length ≤ l.length := lim_len (by omega) _ (by
      have := val_lt h
      have q := Int.mul_le_mul_of_nonneg_left (show 1 ≤ (2 : Int) ^ t by have := p2_pos t; omega) (show 0 ≤ o by omega)
      omega)
    obtain ⟨K4, h4⟩ := make_ev neg (lim o) (U_lim (by omega)) (by omega)
    rw [val_lim (by omega)] at h4
    have hnw : nw (sg neg o) = (decide (sg neg (val l) < 0), lim o) := by
      unfold nw
      rw [sg_lt neg o0, sg_lt neg v0, sg_abs neg (by omega)]
    rw [hnw] at h4
    refine ⟨K1 + K2 + K3 + K4 + 1, fun k hk => ?_⟩
    obtain ⟨k, rfl⟩ : ∃ m, k = m + 1 := ⟨k - 1, by omega⟩
    unfold dy_Make.f
    rw [h1 _ (by omega), Option.bind_some, if_neg s1, within_eq, Option.bind_some]
    by_cases hw : -4194304 ≤ e ∧ e ≤ 4194304
    · rw [decide_eq_true hw]
      simp only [dy_Make.j0, Bool.not_true, Bool.false_eq_true, if_false]
      rw [h2 k (by omega), Option.bind_some, tE.resolve_right (fun x => x hw), within_eq, Option.bind_some]
      by_cases hw2 : e + t ≤ 4194304
      · rw [decide_eq_true ⟨by omega, hw2⟩, if_pos rfl, h3 k (by omega), Option.bind_some, h4 k (by omega), Option.bind_some, if_pos ⟨hw.1, hw.2, hw2⟩]
      · rw [decide_eq_false (fun x => hw2 x.2), if_neg (by decide), if_neg (fun x => hw2 x.2.2)]
    · rw [decide_eq_false hw]
      simp only [dy_Make.j0, Bool.not_false, if_true]
      rw [if_neg (fun x => hw ⟨x.1, x.2.1⟩)]
theorem val_mod2 {l : List Int} (h : 0 < l.length) : val l % 2 = l.getD 0 0 % 2 := by
  cases l with
  | nil => simp at h
  | cons x l => simp only [val_cons, List.getD_cons_zero]; omega
theorem and1_u32 {x : Int} (h0 : 0 ≤ x) (h1 : x < 4294967296) : Go.bits .and .u32 x 1 = x % 2 := by
  obtain ⟨n, rfl⟩ := Int.eq_ofNat_of_zero_le h0
  have := bits_and_nat n 1 (by omega) (by decide)
  rw [Nat.and_one_is_mod] at this
  exact this
/-- May one be: then it is what it is made. -/
def mayd (neg : Bool) (l : List Int) (e : Int) : Bool := if l.length = 0 then (!neg && e == 0) else (mayw neg l && decide (l.getD 0 0 % 2 = 1) && decide (-4194304 ≤ e ∧ e ≤ 4194304))
theorem dmay_eq (neg : Bool) (l : List Int) (e : Int) (h : U l) (hb : l.length ≤ 1073741824) : dy_May.f neg l e = some (mayd neg l e) := by
  unfold dy_May.f mayd
  have g := U_getD h 0
  by_cases hl : l.length = 0
  · rw [if_pos (by omega), if_pos hl]
    cases neg <;> simp
  · rw [if_neg (by omega), if_neg hl, wmay_eq neg l hb, Option.bind_some]
    cases mayw neg l
    · simp
    · rw [if_pos rfl, if_pos (by omega), rd_eq, show (0 : Int).toNat = 0 from rfl, and1_u32 g.1 g.2, within_eq]
      by_cases h1 : l.getD 0 0 % 2 = 1
      · rw [if_pos h1, decide_eq_true h1]; simp
      · rw [if_neg h1, decide_eq_false h1]; simp
theorem mayd_dv {neg : Bool} {l : List Int} {e : Int} (h : U l) (hm : mayd neg l e = true) : Dv (neg, l, e) (sg neg (val l)) e := by
  have hn := val_nonneg h
  unfold mayd at hm
  by_cases hl : l.length = 0
  · rw [if_pos hl] at hm
    obtain rfl : l = [] := List.length_eq_zero_iff.1 hl
    cases neg
    · simp at hm; subst hm; exact .inl ⟨rfl, rfl⟩
    · simp at hm
  · rw [if_neg hl] at hm
    simp only [Bool.and_eq_true, decide_eq_true_eq] at hm
    obtain ⟨⟨m1, m2⟩, m3⟩ := hm
    unfold mayw at m1
    rw [if_neg hl] at m1
    have hlim := lim_of_norm h (fun _ => bne_iff_ne.1 m1)
    have v2 := val_mod2 (l := l) (by omega)
    have v0 : 0 < val l := by omega
    refine .inr ⟨val l, 0, v0, by omega, sg_ne neg v0, by rw [sg_abs neg hn]; simp, ?_⟩
    rw [if_pos ⟨m3.1, m3.2, by omega⟩, sg_lt neg v0, hlim]
    simp
theorem dv_mayd {d : Dd} {s e : Int} (h : Dv d s e) : mayd d.1 d.2.1 d.2.2 = true := by
  have hE := h.E
  rcases h.odd with h | ⟨o, o0, o1, h⟩
  · rw [h]; rfl
  · rw [h]
    unfold mayd mayw
    have n := lim_nil_iff (n := o) (by omega)
    have v2 := val_mod2 (l := lim o) (by omega)
    rw [val_lim (by omega)] at v2
    rw [if_neg (by omega), if_neg (by omega), decide_eq_true (show (lim o).getD 0 0 % 2 = 1 by omega), decide_eq_true hE, Bool.and_true, Bool.and_true]
    exact bne_iff_ne.2 (lim_last o0)
theorem dfair_ev (neg : Bool) (l : List Int) (e : Int) (h : U l) (hb : l.length ≤ 100000000) {d : Dd} (hd : Dv d (sg neg (val l)) e) : ∃ K, ∀ k, K ≤ k → dy_fair.f k neg l e = some d := by
  obtain ⟨K1, h1⟩ := mk_ev neg l e h hb hd
  refine ⟨K1, fun k hk => ?_⟩
  unfold dy_fair.f
  rw [dmay_eq neg l e h (by omega), Option.bind_some]
  by_cases hm : mayd neg l e = true
  · rw [if_pos hm, hd.un (mayd_dv h hm)]
  · rw [if_neg hm, h1 k hk]; rfl
theorem move_ev (neg : Bool) (l : List Int) (e n : Int) (h : U l) (hb : l.length ≤ 100000000) {d d' : Dd} (hd : Dv d (sg neg (val l)) e) (n0 : -16777216 ≤ n) (n1 : n ≤ 16777216) (hd' : Dv d' (sg d.1 (val d.2.1)) (d.2.2 + n)) :
    ∃ K, ∀ k, K ≤ k → dy_Move.f k neg l e n = some d' := by
  obtain ⟨K1, h1⟩ := dfair_ev neg l e h hb hd
  have hl := hd.len (B_of neg h (Nat.le_refl _))
  have hE := hd.E
  obtain ⟨K2, h2⟩ := mk_ev d.1 d.2.1 (d.2.2 + n) hd.U (by omega) hd'
  refine ⟨K1 + K2, fun k hk => ?_⟩
  unfold dy_Move.f
  rw [h1 k (by omega), Option.bind_some, if_neg (by omega), if_neg (by omega), w64 (by omega) (by omega), h2 k (by omega)]
  rfl
theorem move0_ev (neg : Bool) (l : List Int) (e : Int) (h : U l) (hb : l.length ≤ 100000000) {d : Dd} (hd : Dv d (sg neg (val l)) e) : ∃ K, ∀ k, K ≤ k → dy_Move.f k neg l e 0 = some d :=
  move_ev neg l e 0 h hb hd (by decide) (by decide) (by rw [Int.add_zero]; exact hd.again)
/-! layer 5 -/
theorem or64_zero' {m : Int} (hm0 : 0 ≤ m) (hm1 : m < 18446744073709551616) : Go.bits .or .u64 0 m = m := by
  rw [bits_or_comm]
  have := (or_sum (h := m) (l := 0) (b := 0) (j := 64) rfl hm0 hm1 (by decide) (by decide)).1
  simpa using this
theorem nword_end (k : Nat) (x : Int) (l : List Int) (i : Int) (hi : ¬ i < (l.length : Int)) : num_word.l0 (k + 1) x l (l.length : Int) i = some x := by
  simp only [num_word.l0]
  rw [if_neg hi]
theorem nword_step (k : Nat) (x : Int) (l : List Int) (i : Nat) (h : i < l.length) (hb : l.length ≤ 2) (hu : U l) :
    num_word.l0 (k + 1) x l (l.length : Int) (i : Int) = num_word.l0 k (Go.bits .or .u64 x (l.getD i 0 * 2 ^ (32 * i) % 18446744073709551616)) l (l.length : Int) ((i + 1 : Nat) : Int) := by
  have hg := U_getD hu i
  simp only [num_word.l0, rd_eq, Int.toNat_natCast]
  rw [if_pos (by omega), if_pos (by omega), if_pos (by omega), u64w (x := l.getD i 0) (by omega) (by omega), show wrap64 (32 * (i : Int)) = ((32 * i : Nat) : Int) by rw [w64 (by omega) (by omega)]; omega, if_pos (by omega), shl64 (by omega), w64_succ (by omega)]
theorem nword_ev {v : Int} (h0 : 0 ≤ v) (h1 : v < 18446744073709551616) : ∃ K, ∀ k, K ≤ k → num_word.f k (lim v) = some v := by
  have hl := lim_len h0 2 (by rw [show pw 2 = 18446744073709551616 by decide]; exact h1)
  have u := U_lim h0
  have hv := val_lim h0
  generalize lim v = l at *
  refine ⟨3, fun k hk => ?_⟩
  obtain ⟨k, rfl⟩ : ∃ m, k = m + 3 := ⟨k - 3, by omega⟩
  unfold num_word.f
  match l, hl, u, hv with
  | [], _, _, hv =>
    have : (0 : Int) = v := hv
    subst this
    exact nword_end _ _ [] _ (by decide)
  | [a], hl, u, hv =>
    have ha := u a (by simp)
    have e : v = a := by rw [← hv]; simp
    refine (nword_step (k + 2) 0 [a] 0 (by simp) hl u).trans ?_
    refine (nword_end _ _ [a] _ (by simp)).trans ?_
    rw [e, show [a].getD 0 0 * 2 ^ (32 * 0) % 18446744073709551616 = a by simp; omega, or64_zero' (by omega) (by omega)]
  | [a, b], hl, u, hv =>
    have ha := u a (by simp)
    have hb := u b (by simp)
    have e : v = a + 4294967296 * b := by rw [← hv]; simp
    refine (nword_step (k + 2) 0 [a, b] 0 (by simp) hl u).trans ?_
    refine (nword_step (k + 1) _ [a, b] 1 (by simp) hl u).trans ?_
    refine (nword_end _ _ [a, b] _ (by simp)).trans ?_
    rw [show [a, b].getD 0 0 * 2 ^ (32 * 0) % 18446744073709551616 = a by simp; omega, or64_zero' (by omega) (by omega), show [a, b].getD 1 0 * 2 ^ (32 * 1) % 18446744073709551616 = b * 2 ^ 32 by simp; omega, bits_or_comm]
    have := (or_sum (h := b) (l := a) (b := 32) (j := 32) rfl hb.1 (by rw [show (2 : Int) ^ 32 = 4294967296 by decide]; exact hb.2) ha.1 (by rw [show (2 : Int) ^ 32 = 4294967296 by decide]; exact ha.2)).1
    rw [this, e, show (2 : Int) ^ 32 = 4294967296 by decide]
    congr 1
    omega
/-- What a number of layer 3 is rounded to. -/
def rdv (d : Dd) (up : Bool) : Nm := rnz (sg d.1 (val d.2.1)) d.2.2 up
theorem nround_ev (neg : Bool) (l : List Int) (e : Int) (h : U l) (hb : l.length ≤ 100000000) {d : Dd} (hd : Dv d (sg neg (val l)) e) (up : Bool) : ∃ K, ∀ k, K ≤ k → num_Round.f k neg l e up = some (rdv d up) := by
  obtain ⟨K1, h1⟩ := move0_ev neg l e h hb hd
  have hlen := hd.len (B_of neg h (Nat.le_refl _))
  have hE := hd.E
  rcases hd.odd with h0 | ⟨o, o0, o1, ho⟩
  · subst h0
    obtain ⟨K2, h2⟩ := len_ev [] U_nil (by simp)
    rw [val_nil, bl_zero] at h2
    refine ⟨K1 + K2, fun k hk => ?_⟩
    unfold num_Round.f
    rw [h1 k (by omega), Option.bind_some]
    simp only
    rw [h2 k (by omega), Option.bind_some, if_pos rfl]
    rfl
  obtain ⟨n, m, E⟩ := d
  simp only at ho hlen hE
  subst ho
  have er : rdv (n, lim o, E) up = rnd n o E (up != n) := by
    unfold rdv
    simp only
    rw [val_lim (by omega), rnz_sg o0]
  rw [er]
  clear er hd
  have po := bl_pos o0
  have bu : bl o ≤ ((32 * l.length : Nat) : Int) := by
    refine bl_le ?_
    have := val_lt (U_lim (n := o) (by omega))
    rw [val_lim (by omega), p2_limb] at this
    exact Int.lt_of_lt_of_le this (p2_mono (by omega))
  obtain ⟨K2, h2⟩ := len_ev (lim o) (U_lim (by omega)) (by omega)
  rw [val_lim (by omega)] at h2
  by_cases hb : bl o ≤ 64
  · obtain ⟨j, hj⟩ : ∃ j : Nat, 64 - bl o = j := ⟨(64 - bl o).toNat, by omega⟩
    have w : wrap64 (64 - bl o) = (j : Int) := by rw [w64 (by omega) (by omega)]; omega
    obtain ⟨K3, h3⟩ := shl_ev (lim o) j (U_lim (by omega)) (by omega)
    rw [val_lim (by omega), shlv_eq (by omega) (by omega), Int.toNat_natCast] at h3
    have pj := p2_pos j
    have v0 := Int.mul_pos o0 pj
    have v1 := mul_lt_p j (bl_lt (n := o) (by omega))
    rw [← p2_add, show (bl o).toNat + j = 64 by omega, p64] at v1
    obtain ⟨K4, h4⟩ := nword_ev (v := o * 2 ^ j) (by omega) v1
    refine ⟨K1 + K2 + K3 + K4 + 2, fun k hk => ?_⟩
    unfold num_Round.f
    rw [h1 k (by omega), Option.bind_some]
    simp only
    rw [h2 k (by omega), Option.bind_some, if_neg (by omega), if_pos hb, w, h3 k (by omega), Option.bind_some, h4 k (by omega), Option.bind_some, bnd_eq k (by omega), Option.bind_some, w64 (x := E + bl o) (by omega) (by omega), w64 (by omega) (by omega)]
    unfold rnd
    rw [if_pos hb, hj, Int.toNat_natCast]
  · obtain ⟨j, hj⟩ : ∃ j : Nat, bl o - 64 = (j + 1 : Nat) := ⟨(bl o - 65).toNat, by omega⟩
    have w : wrap64 (bl o - 64) = ((j + 1 : Nat) : Int) := by rw [w64 (by omega) (by omega)]; omega
    obtain ⟨K3, h3⟩ := shr_ev (lim o) ((j + 1 : Nat) : Int) (U_lim (by omega)) (by omega)
    rw [val_lim (by omega), shrv_eq (by omega), Int.toNat_natCast] at h3
    have pj := p2_pos (j + 1)
    have q0 := Int.le_ediv_of_mul_le (a := 9223372036854775808) (b := o) pj (by
      have := bl_ge o0
      rw [show (bl o - 1).toNat = 63 + (j + 1) by omega, p2_add, p63] at this
      exact this)
    have q1 := Int.ediv_lt_of_lt_mul (a := o) (b := 18446744073709551616) pj (by
      have := bl_lt (n := o) (by omega)
      rw [show (bl o).toNat = 64 + (j + 1) by omega, p2_add, p64] at this
      exact this)
    have cut : decide (o % 2 ^ (j + 1) ≠ 0) = true := by
      refine decide_eq_true fun h => ?_
      have := Int.mul_ediv_add_emod o (2 ^ (j + 1))
      rw [h, p2_succ, Int.mul_assoc] at this
      omega
    have er2 : rnd n o E (up != n) = grw n (o / 2 ^ (j + 1)) (E + bl o - 64) true (up != n) := by
      unfold rnd
      rw [if_neg hb, hj, Int.toNat_natCast, cut]
    rw [er2]
    have w1 : wrap64 (wrap64 (E + bl o) - 64) = E + bl o - 64 := by rw [w64 (x := E + bl o) (by omega) (by omega), w64 (by omega) (by omega)]
    generalize hq : o / 2 ^ (j + 1) = q at *
    obtain ⟨K4, h4⟩ := nword_ev (v := q) (by omega) q1
    refine ⟨K1 + K2 + K3 + K4 + 3, fun k hk => ?_⟩
    unfold num_Round.f
    rw [h1 k (by omega), Option.bind_some]
    simp only
    rw [h2 k (by omega), Option.bind_some, if_neg (by omega), if_neg hb, w, h3 k (by omega), Option.bind_some, h4 k (by omega), Option.bind_some, w1, grw_eq k (by omega) _ _ _ _ _ q0 q1 (by omega) (by omega), Option.bind_some]
/-! what wakes the statements -/
theorem awake_ev : ∃ K, ∀ k, K ≤ k → peloruslaw05_awake.f k = some true := by
  have hv : val [1, 0, 1] = 18446744073709551617 := by decide
  have hd : Dv (false, lim 18446744073709551617, 0) (sg false (val [1, 0, 1])) 0 := by
    rw [hv]
    exact .inr ⟨18446744073709551617, 0, by decide, by decide, by decide, by decide, by rw [if_pos (by decide)]; rfl⟩
  have hu : U [1, 0, 1] := by simp [U]
  obtain ⟨K1, h1⟩ := nround_ev false [1, 0, 1] 0 hu (by simp) hd false
  obtain ⟨K2, h2⟩ := nround_ev false [1, 0, 1] 0 hu (by simp) hd true
  have r1 : rdv (false, lim 18446744073709551617, 0) false = (1, false, 9223372036854775808, 1) := by
    unfold rdv; rw [val_lim (by decide)]; decide +kernel
  have r2 : rdv (false, lim 18446744073709551617, 0) true = (1, false, 9223372036854775809, 1) := by
    unfold rdv; rw [val_lim (by decide)]; decide +kernel
  rw [r1] at h1
  rw [r2] at h2
  refine ⟨K1 + K2 + 1, fun k hk => ?_⟩
  unfold peloruslaw05_awake.f
  rw [of_eq k (by omega) 1 (by decide) (by decide), of1, Option.bind_some, Option.bind_some, h1 k (by omega), Option.bind_some, h2 k (by omega), Option.bind_some]
  rfl
end Go.Proofs.YtkemnoejpbknhaaDoor.T

namespace Go.Proofs.YtkemnoejpbknhaaDoor.T
set_option linter.unusedVariables false
set_option linter.unusedSimpArgs false
open Go.RowKit Go.Proofs.YtkemnoejpbknhaaDoorW.PrintWords Go.Proofs.YtkemnoejpbknhaaDoorW.PrintMore Go.Proofs.YtkemnoejpbknhaaDoor.PA

theorem mg_val {n : Nm} (h : mayP n) : (n.1 = 0 ∧ n.2.1 = false ∧ n.2.2.1 = 0 ∧ n.2.2.2 = 0 ∧ mg n = 0) ∨
    (n.1 = 1 ∧ 9223372036854775808 ≤ n.2.2.1 ∧ n.2.2.1 < 18446744073709551616 ∧ -1048576 ≤ n.2.2.2 ∧ n.2.2.2 ≤ 1048576 ∧ mg n = (n.2.2.2 + 1048576) * 9223372036854775808 + (n.2.2.1 - 9223372036854775808) + 1) ∨
    (n.1 = 2 ∧ n.2.2.1 = 0 ∧ n.2.2.2 = 0 ∧ mg n = 2097153 * 9223372036854775808 + 1) := by
  unfold mg
  rcases h with ⟨h1, h2, h3, h4⟩ | ⟨h1, h2, h3, h4, h5⟩ | ⟨h1, h2, h3⟩
  · exact .inl ⟨h1, h2, h3, h4, by rw [if_pos h1]⟩
  · exact .inr (.inl ⟨h1, h2, h3, h4, h5, by rw [if_neg (by omega), if_neg (by omega)]⟩)
  · exact .inr (.inr ⟨h1, h2, h3, by rw [if_neg (by omega), if_pos h1]⟩)
theorem mg_inj {a b : Nm} (ha : mayP a) (hb : mayP b) (h : mg a = mg b) : a.1 = b.1 ∧ a.2.2.1 = b.2.2.1 ∧ a.2.2.2 = b.2.2.2 := by
  rcases mg_val ha with ⟨a1, a2, a3, a4, a5⟩ | ⟨a1, a2, a3, a4, a5, a6⟩ | ⟨a1, a2, a3, a4⟩ <;> rcases mg_val hb with ⟨b1, b2, b3, b4, b5⟩ | ⟨b1, b2, b3, b4, b5, b6⟩ | ⟨b1, b2, b3, b4⟩ <;> omega
theorem kv_inj {a b : Nm} (ha : mayP a) (hb : mayP b) (h : kv a = kv b) : a = b := by
  have ma := (mg_bd ha).1
  have mb := (mg_bd hb).1
  have hm : mg a = mg b ∧ (mg a ≠ 0 → a.2.1 = b.2.1) := by
    unfold kv sg at h
    cases e : a.2.1 <;> cases f : b.2.1 <;> simp only [e, f, Bool.false_eq_true, if_false, if_true] at h
    · exact ⟨h, fun _ => rfl⟩
    · exact ⟨by omega, fun _ => by omega⟩
    · exact ⟨by omega, fun _ => by omega⟩
    · exact ⟨by omega, fun _ => rfl⟩
  obtain ⟨h1, h2, h3⟩ := mg_inj ha hb hm.1
  have h4 : a.2.1 = b.2.1 := by
    by_cases z : mg a = 0
    · rcases mg_val ha with ⟨a1, a2, a3, a4, a5⟩ | ⟨a1, a2, a3, a4, a5, a6⟩ | ⟨a1, a2, a3, a4⟩
      · rcases mg_val hb with ⟨b1, b2, b3, b4, b5⟩ | ⟨b1, b2, b3, b4, b5, b6⟩ | ⟨b1, b2, b3, b4⟩
        · rw [a2, b2]
        · omega
        · omega
      · omega
      · omega
    · exact hm.2 z
  obtain ⟨a1, a2, a3, a4⟩ := a
  obtain ⟨b1, b2, b3, b4⟩ := b
  simp only at h1 h2 h3 h4
  rw [h1, h2, h3, h4]
theorem nextv_may {n : Nm} (h : mayP n) (up : Bool) : mayP (nextv n up) := by
  unfold nextv
  split
  · exact .inr (.inl ⟨rfl, by simp, by simp, by simp, by simp⟩)
  · split
    · split
      · exact .inr (.inl ⟨rfl, by simp, by simp, by simp, by simp⟩)
      · exact h
    · have h1 : n.1 = 1 := by rcases h with h | h | h <;> omega
      obtain ⟨m0, m1, e0, e1⟩ := may_fin h h1
      split
      · exact grw_may m0 m1
      · split
        · exact bnd_may (by decide) (by decide)
        · exact .inr (.inl ⟨h1, by simp only; omega, by simp only; omega, e0, e1⟩)
/-- Of a finite one, or nought, the next ones lie one step off. -/
theorem kv_up {n : Nm} (h : mayP n) (h2 : n.1 = 2 → n.2.1 = true) : kv (nextv n true) = kv n + 1 := by
  unfold nextv
  rcases mg_val h with ⟨a1, a2, a3, a4, a5⟩ | ⟨a1, a2, a3, a4, a5, a6⟩ | ⟨a1, a2, a3, a4⟩
  · rw [if_pos a1]
    have e : kv n = 0 := by unfold kv sg; rw [a2, a5]; rfl
    rw [e]; rfl
  · rw [if_neg (by omega), if_neg (by omega)]
    have em : kv n = sg n.2.1 ((n.2.2.2 + 1048576) * 9223372036854775808 + (n.2.2.1 - 9223372036854775808) + 1) := by unfold kv; rw [a6]
    rw [em]
    generalize n.2.1 = s at *
    generalize n.2.2.1 = m at *
    generalize n.2.2.2 = E at *
    cases s
    · rw [if_pos (by decide)]
      unfold grw
      rw [if_pos ⟨rfl, rfl⟩]
      by_cases hc : m + 1 = 18446744073709551616
      · rw [if_pos hc]
        unfold bnd
        by_cases he : E + 1 > 1048576
        · rw [if_pos he]
          simp [kv, mg, sg]; omega
        · rw [if_neg he, if_neg (by omega)]
          simp [kv, mg, sg]; omega
      · rw [if_neg hc, bnd_in a4 a5]
        simp [kv, mg, sg]; omega
    · rw [if_neg (by decide)]
      by_cases hc : m = 9223372036854775808
      · rw [if_pos hc]
        unfold bnd
        rw [if_neg (by omega)]
        by_cases he : E - 1 < -1048576
        · rw [if_pos he]
          simp [kv, mg, sg]; omega
        · rw [if_neg he]
          simp [kv, mg, sg]; omega
      · rw [if_neg hc]
        unfold kv mg
        simp only
        rw [if_neg (by omega), if_neg (by omega)]
        simp [sg]; omega
  · rw [if_neg (by omega), if_pos a1, if_pos (h2 a1)]
    unfold kv
    rw [a4, h2 a1]
    rfl
theorem kv_dn {n : Nm} (h : mayP n) (h2 : n.1 = 2 → n.2.1 = false) : kv (nextv n false) = kv n - 1 := by
  unfold nextv
  rcases mg_val h with ⟨a1, a2, a3, a4, a5⟩ | ⟨a1, a2, a3, a4, a5, a6⟩ | ⟨a1, a2, a3, a4⟩
  · rw [if_pos a1]
    have e : kv n = 0 := by unfold kv sg; rw [a2, a5]; rfl
    rw [e]; rfl
  · rw [if_neg (by omega), if_neg (by omega)]
    have em : kv n = sg n.2.1 ((n.2.2.2 + 1048576) * 9223372036854775808 + (n.2.2.1 - 9223372036854775808) + 1) := by unfold kv; rw [a6]
    rw [em]
    generalize n.2.1 = s at *
    generalize n.2.2.1 = m at *
    generalize n.2.2.2 = E at *
    cases s
    · rw [if_neg (by decide)]
      by_cases hc : m = 9223372036854775808
      · rw [if_pos hc]
        unfold bnd
        rw [if_neg (by omega)]
        by_cases he : E - 1 < -1048576
        · rw [if_pos he]
          simp [kv, mg, sg]; omega
        · rw [if_neg he]
          simp [kv, mg, sg]; omega
      · rw [if_neg hc]
        unfold kv mg
        simp only
        rw [if_neg (by omega), if_neg (by omega)]
        simp [sg]; omega
    · rw [if_pos (by decide)]
      unfold grw
      rw [if_pos ⟨rfl, rfl⟩]
      by_cases hc : m + 1 = 18446744073709551616
      · rw [if_pos hc]
        unfold bnd
        by_cases he : E + 1 > 1048576
        · rw [if_pos he]
          simp [kv, mg, sg]; omega
        · rw [if_neg he, if_neg (by omega)]
          simp [kv, mg, sg]; omega
      · rw [if_neg hc, bnd_in a4 a5]
        simp [kv, mg, sg]; omega
  · rw [if_neg (by omega), if_pos a1, if_pos (h2 a1)]
    unfold kv
    rw [a4, h2 a1]
    rfl
theorem kv_fin {n : Nm} (h : mayP n) (h2 : n.1 ≠ 2) : -(2097153 * 9223372036854775808) ≤ kv n ∧ kv n ≤ 2097153 * 9223372036854775808 := by
  unfold kv sg
  rcases mg_val h with ⟨a1, a2, a3, a4, a5⟩ | ⟨a1, a2, a3, a4, a5, a6⟩ | ⟨a1, a2, a3, a4⟩
  · split <;> omega
  · split <;> omega
  · omega
theorem nxt_g {p : Nm} (k : Nat) (hk : 4 ≤ k) (up : Bool) (hp : mayP p) : num_Next.f k p.1 p.2.1 p.2.2.1 p.2.2.2 up = some (nextv p up) := next_g k hk p up hp
theorem sgn_up {x y : Int} (h : x = y + 1) : sgn (x - y) = 1 := by rw [show x - y = 1 by omega]; rfl
theorem sgn_dn {x y : Int} (h : x = y - 1) : sgn (x - y) = -1 := by rw [show x - y = -1 by omega]; rfl
theorem of_may (a : Int) (h0 : -9223372036854775808 ≤ a) (h1 : a ≤ 9223372036854775807) : mayP (ofv a) := by
  unfold ofv
  split
  · exact .inl ⟨rfl, rfl, rfl, rfl⟩
  · have b0 := bl_pos (n := (a.natAbs : Int)) (by omega)
    have b1 := bl_le (n := (a.natAbs : Int)) (m := 64) (by rw [p64]; omega)
    have b2 := bl_lt (n := (a.natAbs : Int)) (by omega)
    have b3 := bl_ge (n := (a.natAbs : Int)) (by omega)
    obtain ⟨b, hb⟩ : ∃ b : Nat, 64 - bl (a.natAbs : Int) = b := ⟨(64 - bl (a.natAbs : Int)).toNat, by omega⟩
    have c := mul_lt_p b b2
    have c2 := mul_le_p b b3
    rw [← p2_add, show (bl (a.natAbs : Int)).toNat + b = 64 by omega, p64] at c
    rw [← p2_add, show (bl (a.natAbs : Int) - 1).toNat + b = 63 by omega, p63] at c2
    rw [hb, Int.toNat_natCast]
    exact .inr (.inl ⟨rfl, c2, c, by simp only; omega, by simp only; omega⟩)
theorem of_ne2 (a : Int) : (ofv a).1 ≠ 2 := by
  unfold ofv
  split <;> simp
theorem of_sv (a : Int) (h0 : -9223372036854775808 ≤ a) (h1 : a ≤ 9223372036854775807) : ∃ i : Nat, (ofv a).2.2.2 = (i : Int) - 64 ∧ sv (ofv a) * 2 ^ i = a * 2 ^ 64 := by
  unfold ofv
  split
  · rename_i h
    exact ⟨64, by simp, by simp [sv, h]⟩
  · rename_i hz
    have b0 := bl_pos (n := (a.natAbs : Int)) (by omega)
    have b1 := bl_le (n := (a.natAbs : Int)) (m := 64) (by rw [p64]; omega)
    obtain ⟨b, hb⟩ : ∃ b : Nat, 64 - bl (a.natAbs : Int) = b := ⟨(64 - bl (a.natAbs : Int)).toNat, by omega⟩
    refine ⟨(bl (a.natAbs : Int)).toNat, by simp only; omega, ?_⟩
    unfold sv
    simp only [if_true]
    rw [hb, Int.toNat_natCast, sg_mulr, Int.mul_assoc, ← p2_add, show b + (bl (a.natAbs : Int)).toNat = 64 by omega, sg_of]
/-- Whole numbers keep their order. -/
theorem of_kv (a b : Int) (a0 : -9223372036854775808 ≤ a) (a1 : a ≤ 9223372036854775807) (b0 : -9223372036854775808 ≤ b) (b1 : b ≤ 9223372036854775807) : sgn (kv (ofv a) - kv (ofv b)) = sgn (a - b) := by
  have le : ∀ {a b : Int}, -9223372036854775808 ≤ a → a ≤ 9223372036854775807 → -9223372036854775808 ≤ b → b ≤ 9223372036854775807 → kv (ofv a) ≤ kv (ofv b) → a ≤ b := by
    intro a b a0 a1 b0 b1 h
    obtain ⟨i, i1, i2⟩ := of_sv a a0 a1
    obtain ⟨j, j1, j2⟩ := of_sv b b0 b1
    have := val_le (of_may a a0 a1) (of_may b b0 b1) (of_ne2 a) (of_ne2 b) (i := i) (j := j) (by omega) h
    rw [i2, j2] at this
    exact le_of_p 64 this
  rcases Int.lt_trichotomy a b with h | h | h
  · have : ¬ kv (ofv b) ≤ kv (ofv a) := fun h2 => by have := le b0 b1 a0 a1 h2; omega
    rw [sgn_neg (by omega), sgn_neg (by omega)]
  · subst h; simp
  · have : ¬ kv (ofv a) ≤ kv (ofv b) := fun h2 => by have := le a0 a1 b0 b1 h2; omega
    rw [sgn_pos (by omega), sgn_pos (by omega)]
theorem of_neg (a : Int) : ngv (ofv a) = ofv (-a) := by
  unfold ngv ofv
  by_cases h : a = 0
  · subst h; rfl
  · rw [if_neg h, if_neg (show ¬ -a = 0 by omega)]
    simp only
    rw [if_neg (show ¬ (1 : Int) = 0 by decide), Int.natAbs_neg]
    by_cases h2 : a < 0
    · rw [decide_eq_true h2, decide_eq_false (by omega)]; rfl
    · rw [decide_eq_false h2, decide_eq_true (by omega)]; rfl
theorem of_g (k : Nat) (hk : 1 ≤ k) (a : Int) (h0 : -9223372036854775808 ≤ a) (h1 : a ≤ 9223372036854775807) : num_Of.f k a = some (ofv a) := of_eq k hk a h0 h1
theorem may_g {p : Nm} (h : mayP p) : num_May.f p.1 p.2.1 p.2.2.1 p.2.2.2 = some true := by rw [may_eq _ _ _ _ (may_lt h)]; exact congrArg some (decide_eq_true h)
theorem sgn0_kv {x : Int} : sgn x = 0 ↔ x = 0 := ⟨fun h => Decidable.byContradiction fun h2 => sgn_ne h2 h, fun h => by rw [h]; rfl⟩
theorem nm_beq' (a b : Nm) : (a.1 == b.1 && (a.2.1 == b.2.1 && (a.2.2.1 == b.2.2.1 && (a.2.2.2 == b.2.2.2)))) = decide (a = b) := by
  obtain ⟨a1, a2, a3, a4⟩ := a
  obtain ⟨b1, b2, b3, b4⟩ := b
  rw [Bool.eq_iff_iff]
  simp [Prod.ext_iff]
end Go.Proofs.YtkemnoejpbknhaaDoor.T
