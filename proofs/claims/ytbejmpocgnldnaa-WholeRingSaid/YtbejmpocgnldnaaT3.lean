/- What the functions of package nat answer (second part: sums, differences, products). -/
import Derived.Test.YtbejmpocgnldnaaPZx1
import Derived.Test.YtbejmpocgnldnaaT2
namespace Go.Proofs.Ytbejmpocgnldnaa.T
set_option linter.unusedVariables false
set_option linter.unusedSimpArgs false
open Go.RowKit Go.Proofs.YtbejmpocgnldnaaW.PrintWords Go.Proofs.YtbejmpocgnldnaaW.PrintMore Go.Proofs.Ytbejmpocgnldnaa.PZ

theorem val_full {l : List Int} {n : Nat} (h : l.length = n + 1) : val l = val (l.take n) + pw n * l.getD n 0 := by
  have := val_take_succ (l := l) (i := n) (by omega)
  rw [← h, List.take_length] at this
  exact this
theorem take_out (l : List Int) (i : Nat) (h : l.length ≤ i) : l.take i = l := List.take_of_length_le h
theorem getD_out (l : List Int) (i : Nat) (h : l.length ≤ i) : l.getD i 0 = 0 := by
  rw [List.getD_eq_getElem?_getD, List.getElem?_eq_none h]
  rfl
theorem val_take_succ' (l : List Int) (i : Nat) : val (l.take (i + 1)) = val (l.take i) + pw i * l.getD i 0 := by
  by_cases h : i < l.length
  · exact val_take_succ h
  · rw [take_out l _ (by omega), take_out l _ (by omega), getD_out l i (by omega), Int.mul_zero, Int.add_zero]
theorem val_set_take {l : List Int} {i : Nat} (h : i < l.length) (x : Int) : val ((l.set i x).take (i + 1)) = val (l.take i) + pw i * x := by
  rw [val_take_succ (by simpa using h), take_set, getD_set_self h]

theorem add32 {x y c : Int} (hx : 0 ≤ x ∧ x < 4294967296) (hy : 0 ≤ y ∧ y < 4294967296) (hc : 0 ≤ c ∧ c ≤ 1) : bits_Add32.f x y c = some ((x + y + c) % 4294967296, (x + y + c) / 4294967296) := by
  unfold bits_Add32.f
  rw [u64w (x := x) (by omega) (by omega), u64w (x := y) (by omega) (by omega), u64w (x := c) (by omega) (by omega), u64w (x := x + y) (by omega) (by omega), u64w (x := x + y + c) (by omega) (by omega), show (x + y + c) / 4294967296 % 4294967296 = (x + y + c) / 4294967296 by omega]

theorem step_add {P A A1 B1 c x y r q : Int} (e : r + 4294967296 * q = x + y + c) (he : A + P * c = A1 + B1) : A + P * r + 4294967296 * P * q = A1 + P * x + (B1 + P * y) := by
  have h : P * (r + 4294967296 * q) = P * (x + y + c) := by rw [e]
  grind
theorem step_sub {P A A1 B1 c x y r q : Int} (e : r + 4294967296 * q = x - y - c) (he : A - P * c = A1 - B1) : A + P * r - 4294967296 * P * (-q) = A1 + P * x - (B1 + P * y) := by
  have h : P * (r + 4294967296 * q) = P * (x - y - c) := by rw [e]
  grind
theorem add_l0 (a b : List Int) (ha : U a) (hb : U b) (hl : b.length ≤ a.length) (hc : a.length ≤ 1073741823) (d : Nat) :
    ∀ (i : Nat) (o : List Int) (c : Int), i ≤ a.length → a.length - i = d → U o → o.length = a.length + 1 → 0 ≤ c ∧ c ≤ 1 → val (o.take i) + pw i * c = val (a.take i) + val (b.take i) →
      ∃ K, ∀ k, K ≤ k → nat_Add.l0 k a b o c (a.length : Int) (i : Int) = some (lim (val a + val b)) := by
  induction d with
  | zero =>
    intro i o c hi hd ho hol hcc he
    obtain rfl : i = a.length := by omega
    have hu := U_set ho a.length (x := c) (by omega) (by omega)
    obtain ⟨K, hK⟩ := cuto_ev (o.set a.length c) hu (by simp; omega)
    have hv : val (o.set a.length c) = val a + val b := by
      rw [val_full (n := a.length) (by simpa using hol), take_set, getD_set_self (by omega), he, List.take_length, take_out b _ hl]
    refine ⟨K + 1, fun k hk => ?_⟩
    obtain ⟨k, rfl⟩ : ∃ m, k = m + 1 := ⟨k - 1, by omega⟩
    simp only [nat_Add.l0, Int.toNat_natCast]
    rw [if_neg (by omega), if_pos (by omega), if_pos (by omega), hK k (by omega), Option.bind_some, hv]
  | succ d ih =>
    intro i o c hi hd ho hol hcc he
    have hai := U_getD ha i
    have hbi := U_getD hb i
    have key : val ((o.set i ((a.getD i 0 + b.getD i 0 + c) % 4294967296)).take (i + 1)) + pw (i + 1) * ((a.getD i 0 + b.getD i 0 + c) / 4294967296) = val (a.take (i + 1)) + val (b.take (i + 1)) := by
      rw [val_set_take (by omega), val_take_succ', val_take_succ', pw_succ]
      exact step_add (Int.emod_add_mul_ediv (a.getD i 0 + b.getD i 0 + c) 4294967296) he
    obtain ⟨K, hK⟩ := ih (i + 1) (o.set i ((a.getD i 0 + b.getD i 0 + c) % 4294967296)) ((a.getD i 0 + b.getD i 0 + c) / 4294967296) (by omega) (by omega) (U_set ho i (by omega) (by omega)) (by simpa using hol) (by omega) key
    refine ⟨K + 1, fun k hk => ?_⟩
    obtain ⟨k, rfl⟩ : ∃ m, k = m + 1 := ⟨k - 1, by omega⟩
    simp only [nat_Add.l0, Int.toNat_natCast, rd_eq, w64_succ (show i < 4611686018427387904 by omega)]
    rw [if_pos (by omega)]
    by_cases hib : i < b.length
    · rw [if_pos (by omega), if_pos (by omega), if_pos (by omega), add32 hai hbi hcc, Option.bind_some]
      simp only
      rw [if_pos (by omega)]
      exact hK k (by omega)
    · have h5 := add32 hai hbi hcc
      have h6 := hK k (by omega)
      rw [getD_out b i (by omega)] at h5 h6
      rw [if_neg (by omega), if_pos (by omega), if_pos (by omega), h5, Option.bind_some]
      simp only
      rw [if_pos (by omega)]
      exact h6
theorem add_l1 (a b o : List Int) (c n i : Int) (k : Nat) : nat_Add.l1 k a b o c n i = nat_Add.l0 k a b o c n i := by
  induction k generalizing o c i with
  | zero => rfl
  | succ k ih => simp only [nat_Add.l1, nat_Add.l0, ih]
theorem add_ev (a b : List Int) (ha : U a) (hb : U b) (hla : a.length ≤ 1073741823) (hlb : b.length ≤ 1073741823) : ∃ K, ∀ k, K ≤ k → nat_Add.f k a b = some (lim (val a + val b)) := by
  unfold nat_Add.f
  by_cases hc : a.length < b.length
  · obtain ⟨K, hK⟩ := add_l0 b a hb ha (by omega) hlb _ 0 (List.replicate (b.length + 1) 0) 0 (by omega) rfl (U_replicate _) (by simp) (by omega) (by simp)
    refine ⟨K, fun k hk => ?_⟩
    simp only [w64_succ (show b.length < 4611686018427387904 by omega), Int.toNat_natCast]
    rw [if_pos (by omega), if_pos (by omega), if_pos (by omega), Int.add_comm (val a)]
    exact hK k hk
  · obtain ⟨K, hK⟩ := add_l0 a b ha hb (by omega) hla _ 0 (List.replicate (a.length + 1) 0) 0 (by omega) rfl (U_replicate _) (by simp) (by omega) (by simp)
    refine ⟨K, fun k hk => ?_⟩
    simp only [w64_succ (show a.length < 4611686018427387904 by omega), Int.toNat_natCast]
    rw [if_neg (by omega), if_pos (by omega), if_pos (by omega), add_l1]
    exact hK k hk

/-! bits -/
theorem bits_xor_gen (k : IntKind) (j : Nat) (hj : j ≤ k.bits) (hk : ∀ n : Int, 0 ≤ n → n < 2 ^ j → k.wrap n = n) (a b : Nat) (ha : a < 2 ^ j) (hb : b < 2 ^ j) :
    Go.bits .xor k a b = ((a ^^^ b : Nat) : Int) := by
  have hp : 2 ^ j ≤ 2 ^ k.bits := Nat.pow_le_pow_right (by decide) hj
  have ha' : a % 2 ^ k.bits = a := Nat.mod_eq_of_lt (Nat.lt_of_lt_of_le ha hp)
  have hb' : b % 2 ^ k.bits = b := Nat.mod_eq_of_lt (Nat.lt_of_lt_of_le hb hp)
  have cast : ∀ n : Nat, n < 2 ^ j → ((n : Nat) : Int) < 2 ^ j := fun n h => by exact_mod_cast h
  simp only [Go.bits, BitVec.ofInt_natCast, BitVec.toNat_xor, BitVec.toNat_ofNat, ha', hb']
  exact hk _ (Int.natCast_nonneg _) (cast _ (Nat.xor_lt_two_pow ha hb))
theorem wraps_u32 (n : Int) (h0 : 0 ≤ n) (h1 : n < 2 ^ 32) : IntKind.u32.wrap n = n := by rw [IntKind.wrap_u32]; omega
theorem bits_xor_nat (a b : Nat) (ha : a < 4294967296) (hb : b < 4294967296) : Go.bits .xor .u32 a b = ((a ^^^ b : Nat) : Int) := bits_xor_gen .u32 32 (by decide) wraps_u32 a b ha hb
theorem bits_or_comm (k : IntKind) (x y : Int) : Go.bits .or k x y = Go.bits .or k y x := by simp only [Go.bits, BitVec.or_comm]
theorem wraps_u64 (n : Int) (h0 : 0 ≤ n) (h1 : n < 2 ^ 64) : IntKind.u64.wrap n = n := u64w h0 (by omega)
theorem topb (n : Nat) (h : n < 4294967296) : n / 2147483648 = if n.testBit 31 = true then 1 else 0 := by
  rw [Nat.testBit_eq_decide_div_mod_eq]
  by_cases hq : n / 2 ^ 31 % 2 = 1
  · rw [decide_eq_true hq, if_pos rfl]; omega
  · rw [decide_eq_false hq, if_neg (by simp)]; omega
theorem topd (n : Nat) (h : n < 4294967296) : n.testBit 31 = decide (2147483648 ≤ n) := by
  rw [Nat.testBit_eq_decide_div_mod_eq]
  congr 1
  apply propext
  omega
theorem sub32 {x y c : Int} (hx : 0 ≤ x ∧ x < 4294967296) (hy : 0 ≤ y ∧ y < 4294967296) (hc : 0 ≤ c ∧ c ≤ 1) : bits_Sub32.f x y c = some ((x - y - c) % 4294967296, if x - y - c < 0 then 1 else 0) := by
  obtain ⟨X, rfl⟩ : ∃ n : Nat, x = n := ⟨x.toNat, by omega⟩
  obtain ⟨Y, rfl⟩ : ∃ n : Nat, y = n := ⟨y.toNat, by omega⟩
  obtain ⟨D, hD⟩ : ∃ n : Nat, (((X : Int) - Y) % 4294967296 - c) % 4294967296 = n := ⟨((((X : Int) - Y) % 4294967296 - c) % 4294967296).toNat, by omega⟩
  have hX : X < 4294967296 := by omega
  have hY : Y < 4294967296 := by omega
  have hDl : D < 4294967296 := by omega
  have hz := Nat.xor_lt_two_pow (n := 32) hX hY
  have hn : ∀ Z : Nat, Z < 4294967296 → (4294967295 ^^^ Z : Nat) < 4294967296 := fun Z h => Nat.xor_lt_two_pow (n := 32) (by decide) h
  have an := fun (p q : Nat) (hp : p < 4294967296) (hq : q < 4294967296) => bits_nat .u32 32 (by decide) wraps_u32 p q hp hq
  have al : ∀ p q : Nat, p < 4294967296 → q < 4294967296 → p &&& q < 4294967296 := fun p q _ hq => Nat.and_lt_two_pow (n := 32) p hq
  have ol : ∀ p q : Nat, p < 4294967296 → q < 4294967296 → p ||| q < 4294967296 := fun p q hp hq => Nat.or_lt_two_pow (n := 32) hp hq
  have c32 : ((4294967295 : Nat) : Int) = 4294967295 := rfl
  unfold bits_Sub32.f
  rw [hD, ← c32, bits_xor_nat _ _ (by decide) hX, bits_xor_nat X Y hX hY, bits_xor_nat _ _ (by decide) hz, (an _ _ (hn _ hX) hY).1, (an _ _ (hn _ hz) hDl).1, (an _ _ (al _ _ (hn _ hX) hY) (al _ _ (hn _ hz) hDl)).2]
  have e := topb _ (ol _ _ (al _ _ (hn _ hX) hY) (al _ _ (hn _ hz) hDl))
  simp only [Nat.testBit_or, Nat.testBit_and, Nat.testBit_xor, topd _ hX, topd _ hY, topd _ hDl, show Nat.testBit 4294967295 31 = true by decide] at e
  have e2 : ∀ n : Nat, ((n : Int) / 2147483648) = ((n / 2147483648 : Nat) : Int) := fun n => by omega
  rw [e2, e]
  have e3 : (X - Y - c) % 4294967296 = (D : Int) := by omega
  rw [e3]
  congr 2
  by_cases h1 : 2147483648 ≤ X <;> by_cases h2 : 2147483648 ≤ Y <;> by_cases h3 : 2147483648 ≤ D <;> simp only [h1, h2, h3, decide_true, decide_false, Bool.xor_true, Bool.xor_false, Bool.not_true, Bool.not_false, Bool.true_and, Bool.false_and, Bool.and_true, Bool.and_false, Bool.or_true, Bool.or_false, Bool.true_or, Bool.false_or, if_true, Bool.false_eq_true, if_false] <;> split <;> omega
theorem sub_l0 (a b : List Int) (ha : U a) (hb : U b) (hl : b.length ≤ a.length) (hc : a.length ≤ 1073741824) (hv : val b ≤ val a) (d : Nat) :
    ∀ (i : Nat) (o : List Int) (c : Int), i ≤ a.length → a.length - i = d → U o → o.length = a.length → 0 ≤ c ∧ c ≤ 1 → val (o.take i) - pw i * c = val (a.take i) - val (b.take i) →
      ∃ K, ∀ k, K ≤ k → nat_Sub.l0 k a b o c (a.length : Int) (i : Int) = some (lim (val a - val b), true) := by
  induction d with
  | zero =>
    intro i o c hi hd ho hol hcc he
    obtain rfl : i = a.length := by omega
    obtain ⟨K, hK⟩ := cuto_ev o ho (by omega)
    rw [List.take_length, take_out b _ hl, ← hol, List.take_length] at he
    have hlt := val_lt ho
    have hp := pw_pos o.length
    have hc0 : c = 0 := by
      rcases (show c = 0 ∨ c = 1 by omega) with h | h
      · exact h
      · subst h; omega
    subst hc0
    have hvo : val o = val a - val b := by omega
    refine ⟨K + 1, fun k hk => ?_⟩
    obtain ⟨k, rfl⟩ : ∃ m, k = m + 1 := ⟨k - 1, by omega⟩
    simp only [nat_Sub.l0]
    rw [if_neg (by omega), hK k (by omega), Option.bind_some, hvo]
  | succ d ih =>
    intro i o c hi hd ho hol hcc he
    have hai := U_getD ha i
    have hbi := U_getD hb i
    have hif : (if a.getD i 0 - b.getD i 0 - c < 0 then (1 : Int) else 0) = -((a.getD i 0 - b.getD i 0 - c) / 4294967296) := by split <;> omega
    have key : val ((o.set i ((a.getD i 0 - b.getD i 0 - c) % 4294967296)).take (i + 1)) - pw (i + 1) * (if a.getD i 0 - b.getD i 0 - c < 0 then 1 else 0) = val (a.take (i + 1)) - val (b.take (i + 1)) := by
      rw [val_set_take (by omega), val_take_succ', val_take_succ', pw_succ, hif]
      exact step_sub (Int.emod_add_mul_ediv (a.getD i 0 - b.getD i 0 - c) 4294967296) he
    obtain ⟨K, hK⟩ := ih (i + 1) (o.set i ((a.getD i 0 - b.getD i 0 - c) % 4294967296)) (if a.getD i 0 - b.getD i 0 - c < 0 then 1 else 0) (by omega) (by omega) (U_set ho i (by omega) (by omega)) (by simpa using hol) (by split <;> omega) key
    refine ⟨K + 1, fun k hk => ?_⟩
    obtain ⟨k, rfl⟩ : ∃ m, k = m + 1 := ⟨k - 1, by omega⟩
    simp only [nat_Sub.l0, Int.toNat_natCast, rd_eq, w64_succ (show i < 4611686018427387904 by omega)]
    rw [if_pos (by omega)]
    by_cases hib : i < b.length
    · rw [if_pos (by omega), if_pos (by omega), if_pos (by omega), sub32 hai hbi hcc, Option.bind_some]
      simp only
      rw [if_pos (by omega)]
      exact hK k (by omega)
    · have h5 := sub32 hai hbi hcc
      have h6 := hK k (by omega)
      rw [getD_out b i (by omega)] at h5 h6
      rw [if_neg (by omega), if_pos (by omega), if_pos (by omega), h5, Option.bind_some]
      simp only
      rw [if_pos (by omega)]
      exact h6
theorem lim_len_mono {a b : Int} (ha : 0 ≤ a) (h : a ≤ b) : (lim a).length ≤ (lim b).length := by
  by_cases hq : (lim b).length < (lim a).length
  · have := lim_len_lt (a := b) (b := a) (by omega) hq
    omega
  · omega
theorem sub_ev (a b : List Int) (ha : U a) (hb : U b) (hla : a.length ≤ 1073741824) (hlb : b.length ≤ 1073741824) : ∃ K, ∀ k, K ≤ k → nat_Sub.f k a b = some (if val a < val b then ([], false) else (lim (val a - val b), true)) := by
  have na := val_nonneg ha
  have nb := val_nonneg hb
  have la := lim_len na a.length (val_lt ha)
  have lb := lim_len nb b.length (val_lt hb)
  obtain ⟨K1, h1⟩ := cut_ev a ha hla
  obtain ⟨K2, h2⟩ := cut_ev b hb hlb
  obtain ⟨K3, h3⟩ := cmp_ev (lim (val a)) (lim (val b)) (U_lim na) (U_lim nb) (by omega) (by omega)
  rw [val_lim na, val_lim nb] at h3
  unfold nat_Sub.f
  by_cases hlt : val a < val b
  · refine ⟨K1 + K2 + K3, fun k hk => ?_⟩
    rw [h1 k (by omega), Option.bind_some, h2 k (by omega), Option.bind_some, h3 k (by omega), Option.bind_some, sgn_neg (by omega), if_pos (by omega), if_pos hlt]
  · have hm := lim_len_mono nb (show val b ≤ val a by omega)
    obtain ⟨K, hK⟩ := sub_l0 (lim (val a)) (lim (val b)) (U_lim na) (U_lim nb) hm (by omega) (by rw [val_lim na, val_lim nb]; omega) _ 0 (List.replicate (lim (val a)).length 0) 0 (by omega) rfl (U_replicate _) (by simp) (by omega) (by simp)
    refine ⟨K1 + K2 + K3 + K, fun k hk => ?_⟩
    have h4 := hK k (by omega)
    rw [val_lim na, val_lim nb] at h4
    have hs : ¬ sgn (val a - val b) < 0 := by unfold sgn; split <;> (try split) <;> omega
    rw [h1 k (by omega), Option.bind_some, h2 k (by omega), Option.bind_some, h3 k (by omega), Option.bind_some, if_neg hs, if_neg hlt, if_pos (by omega), if_pos (by omega), Int.toNat_natCast]
    exact h4
end Go.Proofs.Ytbejmpocgnldnaa.T
