/- What the document's answers for layer 1 are (second part: products, bits, quotients, roots). What the document's answers for layers 2, 3, 5 and 6 are, as far as layer 6 needs them: exact numbers, as a sign, limbs and a power of two; the exact sum, the exact product, rounded. Sums and products keep the order; what Cmp and Sign compute. What the functions of package whole, and the document's answers for layer 2, compute: numbers with a sign. What the products, quotients and conversions of layer 2 compute; what wakes its statements. What layer 3 makes of a number and a power of two: the noughts at its end taken off. The numbers of layer 3, as the code and the document make them; what layer 5 rounds them to. The order of the numbers of layer 5 by a whole number each; the next ones, whole numbers, the least. -/
import Derived.Test.YthlhogcnfaiphaaDoorPAx2
import Derived.Test.YthlhogcnfaiphaaDoorTQ1
namespace Go.Proofs.YthlhogcnfaiphaaDoor.T
set_option linter.unusedVariables false
set_option linter.unusedSimpArgs false
open Go.RowKit Go.Proofs.YthlhogcnfaiphaaDoorW.PrintWords Go.Proofs.YthlhogcnfaiphaaDoorW.PrintMore Go.Proofs.YthlhogcnfaiphaaDoor.PA

/-! products -/
end Go.Proofs.YthlhogcnfaiphaaDoor.T

namespace Go.Proofs.YthlhogcnfaiphaaDoor.T
set_option linter.unusedVariables false
set_option linter.unusedSimpArgs false
open Go.RowKit Go.Proofs.YthlhogcnfaiphaaDoorW.PrintWords Go.Proofs.YthlhogcnfaiphaaDoorW.PrintMore Go.Proofs.YthlhogcnfaiphaaDoor.PA

theorem len_lim {v : Int} (hv : 0 ≤ v) (n : Nat) (h : v < 2 ^ n) : (lim v).length ≤ n / 32 + 1 := by
  refine lim_len hv _ ?_
  rw [p2_limb]
  exact Int.lt_of_lt_of_le h (p2_mono (by omega))
abbrev Dd := Bool × List Int × Int
/-- Which number s * 2^f is, its limbs odd. -/
def Rep (d : Dd) (s f : Int) : Prop := (s = 0 ∧ d = (false, [], 0)) ∨ ∃ (o : Int) (t : Nat), 0 < o ∧ o % 2 = 1 ∧ s ≠ 0 ∧ (s.natAbs : Int) = o * 2 ^ t ∧ d = (decide (s < 0), lim o, f + t)
theorem Rep.scale {d : Dd} {s f : Int} (j : Nat) (h : Rep d s (f + j)) : Rep d (s * 2 ^ j) f := by
  have hp := p2_pos j
  rcases h with ⟨rfl, h⟩ | ⟨o, t, o0, o1, s0, hs, hd⟩
  · exact .inl ⟨by omega, h⟩
  · refine .inr ⟨o, t + j, o0, o1, Int.mul_ne_zero s0 (by omega), ?_, ?_⟩
    · rw [Int.natAbs_mul, Int.natCast_mul, show ((((2 : Int) ^ j).natAbs : Nat) : Int) = 2 ^ j from Int.natAbs_of_nonneg (by omega), hs, p2_add, Int.mul_assoc]
    · rw [hd]
      have : decide (s * 2 ^ j < 0) = decide (s < 0) := by
        by_cases h2 : s < 0
        · rw [decide_eq_true h2, decide_eq_true (Int.mul_neg_of_neg_of_pos h2 hp)]
        · rw [decide_eq_false h2, decide_eq_false]
          have := Int.mul_pos (show 0 < s by omega) hp
          omega
      rw [this]
      congr 2
      omega
theorem sg_abs (neg : Bool) {v : Int} (hv : 0 ≤ v) : ((sg neg v).natAbs : Int) = v := by
  unfold sg
  cases neg
  · simp only [Bool.false_eq_true, if_false]; exact Int.natAbs_of_nonneg hv
  · simp only [if_true, Int.natAbs_neg]; exact Int.natAbs_of_nonneg hv
theorem sg_lt (neg : Bool) {v : Int} (hv : 0 < v) : decide (sg neg v < 0) = neg := by
  unfold sg
  cases neg
  · simp only [Bool.false_eq_true, if_false]; exact decide_eq_false (by omega)
  · simp only [if_true]; exact decide_eq_true (by omega)
theorem sg_ne (neg : Bool) {v : Int} (hv : 0 < v) : sg neg v ≠ 0 := by
  unfold sg
  cases neg
  · simp only [Bool.false_eq_true, if_false]; omega
  · simp only [if_true]; omega
theorem sg_of (s : Int) : sg (decide (s < 0)) s.natAbs = s := by
  unfold sg
  by_cases h : s < 0
  · rw [decide_eq_true h, if_pos rfl]; omega
  · rw [decide_eq_false h, if_neg (by decide)]; omega

/-- The whole number of a finite one, or nought. -/
def sv (n : Nm) : Int := if n.1 = 1 then sg n.2.1 n.2.2.1 else 0
theorem rnz_sv {a : Nm} (ha : mayP a) (h2 : a.1 ≠ 2) (up : Bool) : rnz (sv a) a.2.2.2 up = a := by
  obtain ⟨a1, a2, a3, a4⟩ := a
  rcases ha with ⟨h1, q2, q3, q4⟩ | ⟨h1, q2, q3, q4, q5⟩ | ⟨h1, _⟩ <;> simp only at h1
  · simp only at q2 q3 q4
    subst h1 q2 q3 q4
    rfl
  · subst h1
    simp only at q2 q3 q4 q5
    have e : sv (1, a2, a3, a4) = sg a2 a3 := rfl
    rw [e]
    simp only
    rw [rnz_sg (by omega), rnd_self q2 q3, bnd_in q4 q5]
  · exact absurd h1 h2
theorem sv_zero {a : Nm} (h : a.1 = 0) : sv a = 0 := by unfold sv; rw [if_neg (by omega)]
theorem addv_sv {a b : Nm} (ha : mayP a) (hb : mayP b) (a2 : a.1 ≠ 2) (b2 : b.1 ≠ 2) (up : Bool) (i j : Nat) (f : Int) (hi : f = a.2.2.2 - i) (hj : f = b.2.2.2 - j) (hf : f = min a.2.2.2 b.2.2.2) : rnz (sv a * 2 ^ i + sv b * 2 ^ j) f up = addv a b up := by
  have ha' := ha
  rcases ha with ⟨h1, _⟩ | ⟨h1, _⟩ | ⟨h1, _⟩
  · unfold addv
    rw [if_neg (fun h => a2 h.1), sv_zero h1, Int.zero_mul, Int.zero_add, hj, rnz_scale, show b.2.2.2 - (j : Int) + j = b.2.2.2 by omega, rnz_sv hb b2]
    by_cases z : b.1 = 0
    · rw [if_pos (.inr z)]
      rcases hb with ⟨g1, g2, g3, g4⟩ | ⟨g1, _⟩ | ⟨g1, _⟩
      · rcases ha' with ⟨_, k2, k3, k4⟩ | ⟨k1, _⟩ | ⟨k1, _⟩
        · obtain ⟨a1, a2, a3, a4⟩ := a
          obtain ⟨b1, b2, b3, b4⟩ := b
          simp only at h1 k2 k3 k4 g1 g2 g3 g4
          subst h1 k2 k3 k4 g1 g2 g3 g4
          rfl
        · omega
        · omega
      · omega
      · omega
    · rw [if_neg (by omega), if_pos (.inr h1)]
  · rcases hb with ⟨g1, _⟩ | ⟨g1, _⟩ | ⟨g1, _⟩
    · unfold addv
      rw [if_neg (fun h => a2 h.1), sv_zero g1, Int.zero_mul, Int.add_zero, hi, rnz_scale, show a.2.2.2 - (i : Int) + i = a.2.2.2 by omega, rnz_sv ha' a2, if_pos (.inr g1)]
    · rw [addv_fin h1 g1, hf]
      unfold exs sv
      rw [if_pos h1, if_pos g1]
      rw [show (a.2.2.2 - min a.2.2.2 b.2.2.2).toNat = i by omega, show (b.2.2.2 - min a.2.2.2 b.2.2.2).toNat = j by omega]
    · exact absurd g1 b2
  · exact absurd h1 a2
end Go.Proofs.YthlhogcnfaiphaaDoor.T

namespace Go.Proofs.YthlhogcnfaiphaaDoor.T
set_option linter.unusedVariables false
set_option linter.unusedSimpArgs false
open Go.RowKit Go.Proofs.YthlhogcnfaiphaaDoorW.PrintWords Go.Proofs.YthlhogcnfaiphaaDoorW.PrintMore Go.Proofs.YthlhogcnfaiphaaDoor.PA

theorem addv_gen {a b : Nm} (ha : mayP a) (hb : mayP b) (a2 : a.1 ≠ 2) (b2 : b.1 ≠ 2) (up : Bool) {i j : Nat} {f : Int} (hi : f = a.2.2.2 - i) (hj : f = b.2.2.2 - j) : rnz (sv a * 2 ^ i + sv b * 2 ^ j) f up = addv a b up := by
  obtain ⟨i0, j0, k, h1, h2, h3⟩ : ∃ i0 j0 k : Nat, i = i0 + k ∧ j = j0 + k ∧ min a.2.2.2 b.2.2.2 = f + k := ⟨i - (min a.2.2.2 b.2.2.2 - f).toNat, j - (min a.2.2.2 b.2.2.2 - f).toNat, (min a.2.2.2 b.2.2.2 - f).toNat, by omega, by omega, by omega⟩
  rw [← addv_sv ha hb a2 b2 up i0 j0 (f + k) (by omega) (by omega) h3.symm, ← rnz_scale, Int.add_mul, Int.mul_assoc, Int.mul_assoc, ← p2_add, ← p2_add, h1, h2]

end Go.Proofs.YthlhogcnfaiphaaDoor.T

namespace Go.Proofs.YthlhogcnfaiphaaDoor.T
set_option linter.unusedVariables false
set_option linter.unusedSimpArgs false
open Go.RowKit Go.Proofs.YthlhogcnfaiphaaDoorW.PrintWords Go.Proofs.YthlhogcnfaiphaaDoorW.PrintMore Go.Proofs.YthlhogcnfaiphaaDoor.PA

/-- A number as a sign and limbs. -/
def nw (s : Int) : Bool × List Int := (decide (s < 0), lim s.natAbs)
theorem nw_U (s : Int) : U (nw s).2 := U_lim (by omega)
theorem nw_sg (s : Int) : sg (nw s).1 (val (nw s).2) = s := by
  unfold nw
  simp only
  rw [val_lim (by omega)]
  exact sg_of s
theorem nw_of (neg : Bool) {v : Int} (hv : 0 ≤ v) : (neg && decide (v ≠ 0), lim v) = nw (sg neg v) := by
  unfold nw
  rw [sg_abs neg hv]
  congr 1
  unfold sg
  cases neg
  · simp only [Bool.false_and, Bool.false_eq_true, if_false]; exact (decide_eq_false (by omega)).symm
  · simp only [Bool.true_and, if_true]; rw [decide_eq_decide]; omega
/-- No longer than so many limbs. -/
def B (s : Int) (L : Nat) : Prop := (s.natAbs : Int) < pw L
theorem B_of (neg : Bool) {l : List Int} (h : U l) {L : Nat} (hl : l.length ≤ L) : B (sg neg (val l)) L := by
  unfold B
  rw [sg_abs neg (val_nonneg h)]
  exact Int.lt_of_lt_of_le (val_lt h) (pw_mono hl)
theorem B_len {s : Int} {L : Nat} (h : B s L) : (nw s).2.length ≤ L := lim_len (by omega) L h
theorem B_add {s t : Int} {L M : Nat} (hs : B s L) (ht : B t M) : B (s + t) (max L M + 1) := by
  unfold B at *
  have h5 := pw_mono (show L ≤ max L M by omega)
  have h6 := pw_mono (show M ≤ max L M by omega)
  rw [pw_succ]
  omega
theorem B_mul {s t : Int} {L M : Nat} (hs : B s L) (ht : B t M) : B (s * t) (L + M) := by
  unfold B at *
  rw [Int.natAbs_mul, Int.natCast_mul, pw_add]
  have p := pw_pos L
  have e1 := Int.mul_le_mul_of_nonneg_right (show (s.natAbs : Int) ≤ pw L by omega) (show (0 : Int) ≤ t.natAbs by omega)
  have e2 := Int.mul_lt_mul_of_pos_left ht p
  omega
theorem make_ev (neg : Bool) (l : List Int) (h : U l) (hb : l.length ≤ 1073741824) : ∃ K, ∀ k, K ≤ k → whole_Make.f k neg l = some (nw (sg neg (val l))) := by
  obtain ⟨K, hK⟩ := trim_ev l h hb
  refine ⟨K, fun k hk => ?_⟩
  have hn := val_nonneg h
  rw [← nw_of neg hn]
  unfold whole_Make.f
  rw [hK k hk, Option.bind_some]
  cases neg
  · rfl
  · rw [if_pos rfl]
    congr 2
    rw [Bool.true_and, decide_eq_decide]
    have := lim_nil_iff hn
    omega
theorem sgn_sg (neg : Bool) {v : Int} (hv : 0 ≤ v) : sgn (sg neg v) = if v = 0 then 0 else if neg = true then -1 else 1 := by
  unfold sg
  by_cases h : v = 0
  · rw [if_pos h, h]; cases neg <;> rfl
  · rw [if_neg h]
    cases neg
    · exact sgn_pos (by simpa using (by omega : 0 < v))
    · exact sgn_neg (by simp only [if_true]; omega)
theorem sign_ev (neg : Bool) (l : List Int) (h : U l) (hb : l.length ≤ 1073741824) : ∃ K, ∀ k, K ≤ k → whole_Sign.f k neg l = some (sgn (sg neg (val l))) := by
  obtain ⟨K, hK⟩ := len_ev l h hb
  refine ⟨K, fun k hk => ?_⟩
  have hn := val_nonneg h
  unfold whole_Sign.f
  rw [hK k hk, Option.bind_some, sgn_sg neg hn]
  by_cases z : val l = 0
  · rw [z, if_pos rfl, if_pos bl_zero]
  · have := bl_pos (n := val l) (by omega)
    rw [if_neg (by omega), if_neg z]
    cases neg <;> rfl
theorem neg_ev (b : Bool) (l : List Int) (h : U l) (hb : l.length ≤ 1073741824) : ∃ K, ∀ k, K ≤ k → whole_Neg.f k b l = some (nw (-sg b (val l))) := by
  obtain ⟨K, hK⟩ := make_ev (!b) l h hb
  refine ⟨K, fun k hk => ?_⟩
  unfold whole_Neg.f
  rw [hK k hk, Option.bind_some, sg_neg]
theorem addw_ev (b c : Bool) (l m : List Int) (hl : U l) (hm : U m) (bl : l.length ≤ 100000000) (bm : m.length ≤ 100000000) : ∃ K, ∀ k, K ≤ k → whole_Add.f k b l c m = some (nw (sg b (val l) + sg c (val m))) := by
  have nl := val_nonneg hl
  have nm := val_nonneg hm
  have ll := val_lt hl
  have lm := val_lt hm
  by_cases h : b = c
  · subst h
    obtain ⟨K1, a⟩ := add_ev l m hl hm (by omega) (by omega)
    obtain ⟨K2, d⟩ := make_ev b (lim (val l + val m)) (U_lim (by omega)) (by have := B_len (B_add (B_of false hl (Nat.le_refl _)) (B_of false hm (Nat.le_refl _))); simp only [sg, nw, Bool.false_eq_true, if_false] at this; rw [Int.natAbs_of_nonneg (by omega)] at this; omega)
    rw [val_lim (by omega)] at d
    refine ⟨K1 + K2, fun k hk => ?_⟩
    unfold whole_Add.f
    rw [if_pos (by simp), a k (by omega), Option.bind_some, d k (by omega), Option.bind_some]
    have e : sg b (val l + val m) = sg b (val l) + sg b (val m) := by unfold sg; split <;> omega
    rw [e]
  · have hq : ¬ (b == c) = true := by simpa using h
    have hc : c = !b := by cases b <;> cases c <;> simp_all
    obtain ⟨K1, a⟩ := sub_ev l m hl hm (by omega) (by omega)
    by_cases hlt : val l < val m
    · obtain ⟨K2, a2⟩ := sub_ev m l hm hl (by omega) (by omega)
      rw [if_neg (by omega)] at a2
      rw [if_pos hlt] at a
      obtain ⟨K3, d⟩ := make_ev c (lim (val m - val l)) (U_lim (by omega)) (by have := lim_len (n := val m - val l) (by omega) m.length (by omega); omega)
      rw [val_lim (by omega)] at d
      refine ⟨K1 + K2 + K3, fun k hk => ?_⟩
      unfold whole_Add.f
      rw [if_neg hq, a k (by omega), Option.bind_some, if_neg (by decide), a2 k (by omega), Option.bind_some]
      simp only
      rw [d k (by omega), Option.bind_some]
      have e : sg c (val m - val l) = sg b (val l) + sg c (val m) := by subst hc; unfold sg; cases b <;> simp <;> omega
      rw [e]
    · rw [if_neg hlt] at a
      obtain ⟨K3, d⟩ := make_ev b (lim (val l - val m)) (U_lim (by omega)) (by have := lim_len (n := val l - val m) (by omega) l.length (by omega); omega)
      rw [val_lim (by omega)] at d
      refine ⟨K1 + K3, fun k hk => ?_⟩
      unfold whole_Add.f
      rw [if_neg hq, a k (by omega), Option.bind_some, if_pos rfl]
      simp only
      rw [d k (by omega), Option.bind_some]
      have e : sg b (val l - val m) = sg b (val l) + sg c (val m) := by subst hc; unfold sg; cases b <;> simp <;> omega
      rw [e]
end Go.Proofs.YthlhogcnfaiphaaDoor.T

namespace Go.Proofs.YthlhogcnfaiphaaDoor.T
set_option linter.unusedVariables false
set_option linter.unusedSimpArgs false
open Go.RowKit Go.Proofs.YthlhogcnfaiphaaDoorW.PrintWords Go.Proofs.YthlhogcnfaiphaaDoorW.PrintMore Go.Proofs.YthlhogcnfaiphaaDoor.PA

theorem sg_mul (n n' : Bool) (v v' : Int) : sg (n != n') (v * v') = sg n v * sg n' v' := by
  unfold sg
  cases n <;> cases n' <;> simp [Int.neg_mul, Int.mul_neg]
/-- The product of many. -/
def prodS (l : List S29) : Int := l.foldr (fun x p => sg x.f0 (val x.f1) * p) 1
theorem prodS_cons (x : S29) (l : List S29) : prodS (x :: l) = sg x.f0 (val x.f1) * prodS l := rfl
theorem drop_at {l : List S29} {i : Nat} (h : i < l.length) : l.drop i = l.getD i z29 :: l.drop (i + 1) := by
  rw [List.drop_eq_getElem_cons h, List.getD_eq_getElem?_getD, List.getElem?_eq_getElem h]
  rfl
theorem mem_at {l : List S29} {i : Nat} (h : i < l.length) : l.getD i z29 ∈ l := by
  rw [List.getD_eq_getElem?_getD, List.getElem?_eq_getElem h]
  exact List.getElem_mem h
theorem rd_at (l : List S29) (i : Nat) : rd_T29 l (i : Int) = l.getD i z29 := rfl
theorem mulw_l0 (l : List S29) (hu : ∀ x ∈ l, U x.f1) (hx : ∀ x ∈ l, x.f1.length ≤ 1000) (hl : l.length ≤ 1000) (d : Nat) : ∀ (i : Nat) (n : Bool) (m : List Int), l.length - i = d → i ≤ l.length → U m → m.length ≤ 1 + 1000 * i →
    ∃ K, ∀ k, K ≤ k → whole_Mul.l0 k n m l (l.length : Int) (i : Int) = some (nw (sg n (val m) * prodS (l.drop i))) := by
  induction d with
  | zero =>
    intro i n m hd hi um hm
    obtain ⟨K, h⟩ := make_ev n m um (by omega)
    refine ⟨K + 1, fun k hk => ?_⟩
    obtain ⟨k, rfl⟩ : ∃ j, k = j + 1 := ⟨k - 1, by omega⟩
    simp only [whole_Mul.l0]
    rw [if_neg (by omega), h k (by omega), Option.bind_some, List.drop_of_length_le (by omega), show prodS [] = 1 from rfl, Int.mul_one]
  | succ d ih =>
    intro i n m hd hi um hm
    have hlt : i < l.length := by omega
    have hm1 := mem_at hlt
    have ux := hu _ hm1
    have lx := hx _ hm1
    have nm := val_nonneg um
    have nx := val_nonneg ux
    have nn := Int.mul_nonneg nm nx
    obtain ⟨K1, h1⟩ := mul_ev m (l.getD i z29).f1 um ux (by omega)
    have lp := B_len (B_mul (B_of false um (Nat.le_refl _)) (B_of false ux lx))
    have e0 : (nw (sg false (val m) * sg false (val (l.getD i z29).f1))).2 = lim (val m * val (l.getD i z29).f1) := by
      unfold nw sg
      simp only [Bool.false_eq_true, if_false]
      rw [Int.natAbs_of_nonneg nn]
    rw [e0] at lp
    have lp2 : (lim (val m * val (l.getD i z29).f1)).length ≤ 1 + 1000 * (i + 1) := Nat.le_trans lp (by clear lp e0 h1 nn nx nm; omega)
    obtain ⟨K2, h2⟩ := ih (i + 1) (n != (l.getD i z29).f0) (lim (val m * val (l.getD i z29).f1)) (by omega) (by omega) (U_lim nn) lp2
    rw [val_lim nn, sg_mul, Int.mul_assoc, ← prodS_cons, ← drop_at hlt] at h2
    refine ⟨K1 + K2 + 1, fun k hk => ?_⟩
    obtain ⟨k, rfl⟩ : ∃ j, k = j + 1 := ⟨k - 1, by omega⟩
    simp only [whole_Mul.l0, rd_at]
    rw [if_pos (by omega), if_pos (by omega), if_pos (by omega), h1 k (by omega), Option.bind_some, w64_succ (by omega), h2 k (by omega)]
theorem mulw_ev (l : List S29) (hu : ∀ x ∈ l, U x.f1) (hx : ∀ x ∈ l, x.f1.length ≤ 1000) (hl : l.length ≤ 1000) : ∃ K, ∀ k, K ≤ k → whole_Mul.f k l = some (nw (prodS l)) := by
  obtain ⟨K, h⟩ := mulw_l0 l hu hx hl l.length 0 false [1] (by omega) (by omega) (U_single (by decide) (by decide)) (by simp)
  rw [List.drop_zero, show sg false (val [1]) = 1 by simp [sg], Int.one_mul] at h
  exact ⟨K, h⟩
/-! quotients -/
end Go.Proofs.YthlhogcnfaiphaaDoor.T

namespace Go.Proofs.YthlhogcnfaiphaaDoor.T
set_option linter.unusedVariables false
set_option linter.unusedSimpArgs false
open Go.RowKit Go.Proofs.YthlhogcnfaiphaaDoorW.PrintWords Go.Proofs.YthlhogcnfaiphaaDoorW.PrintMore Go.Proofs.YthlhogcnfaiphaaDoor.PA

theorem bits_and_nat (a b : Nat) (ha : a < 4294967296) (hb : b < 4294967296) : Go.bits .and .u32 a b = ((a &&& b : Nat) : Int) := by
  have ha' : a % 2 ^ IntKind.u32.bits = a := Nat.mod_eq_of_lt ha
  have hb' : b % 2 ^ IntKind.u32.bits = b := Nat.mod_eq_of_lt hb
  simp only [Go.bits, BitVec.ofInt_natCast, BitVec.toNat_and, BitVec.toNat_ofNat, ha', hb']
  exact wraps_u32 _ (Int.natCast_nonneg _) (by have := Nat.and_le_left (n := a) (m := b); omega)
theorem land_tz {o t : Nat} (ho : o % 2 = 1) (h : o * 2 ^ t < 2 ^ 32) : (o * 2 ^ t) &&& (2 ^ 32 - o * 2 ^ t) = 2 ^ t := by
  obtain ⟨y, hy⟩ : ∃ y, o * 2 ^ t = y + 1 := ⟨o * 2 ^ t - 1, by have := Nat.mul_pos (show 0 < o by omega) (Nat.two_pow_pos t); omega⟩
  have hy2 : y = 2 ^ t * (o - 1) + (2 ^ t - 1) := by
    have p := Nat.two_pow_pos t
    have e : 2 ^ t * (o - 1) + 2 ^ t = o * 2 ^ t := by
      obtain ⟨q, rfl⟩ : ∃ q, o = q + 1 := ⟨o - 1, by omega⟩
      rw [Nat.add_sub_cancel, Nat.add_mul, Nat.one_mul, Nat.mul_comm]
    omega
  apply Nat.eq_of_testBit_eq
  intro i
  have b1 : (2 ^ 32 - o * 2 ^ t).testBit i = (decide (i < 32) && !y.testBit i) := by
    rw [hy]
    exact Nat.testBit_two_pow_sub_succ (by omega) i
  rw [Nat.testBit_and, b1, Nat.testBit_mul_two_pow, Nat.testBit_two_pow, hy2, Nat.testBit_two_pow_mul_add _ (by have := Nat.two_pow_pos t; omega)]
  have i32 : t < 32 := by
    apply Nat.lt_of_not_le
    intro hh
    have := Nat.mul_le_mul (show 1 ≤ o by omega) (Nat.pow_le_pow_right (show 0 < 2 by decide) hh)
    omega
  by_cases h1 : i < t
  · rw [decide_eq_false (show ¬ t ≤ i by omega), decide_eq_false (show ¬ t = i by omega)]
    simp
  · rw [if_neg h1, decide_eq_true (show t ≤ i by omega), Bool.true_and]
    by_cases h2 : i = t
    · subst h2
      rw [decide_eq_true rfl, Nat.sub_self, decide_eq_true i32, Nat.testBit_zero, Nat.testBit_zero, decide_eq_true ho, decide_eq_false (show ¬ (o - 1) % 2 = 1 by omega)]
      rfl
    · rw [decide_eq_false (show ¬ t = i by omega)]
      obtain ⟨m, hm⟩ : ∃ m, i - t = m + 1 := ⟨i - t - 1, by omega⟩
      rw [hm, Nat.testBit_succ, Nat.testBit_succ, show (o - 1) / 2 = o / 2 by omega]
      cases (o / 2).testBit m <;> simp
theorem tz_tab : ∀ t : Fin 32, tz32tab.getD ((((2 ^ t.val : Nat) : Int) * 125613361 % 4294967296 / 134217728).toNat) 0 = (t.val : Int) ∧ 0 ≤ ((2 ^ t.val : Nat) : Int) * 125613361 % 4294967296 / 134217728 ∧ ((2 ^ t.val : Nat) : Int) * 125613361 % 4294967296 / 134217728 < 32 := by decide +kernel
theorem lt_32 {o : Int} {t : Nat} (o0 : 0 < o) (h : o * 2 ^ t < 4294967296) : t < 32 := by
  apply Nat.lt_of_not_le
  intro hh
  have h1 := p2_mono hh
  have h2 := mul_le_p t (show 1 ≤ o by omega)
  rw [show (2 : Int) ^ 32 = 4294967296 by decide] at h1
  omega
/-- How many noughts there are at a limb's end. -/
theorem tz_limb {x o : Int} {t : Nat} (o0 : 0 < o) (o1 : o % 2 = 1) (hx : x = o * 2 ^ t) (h1 : x < 4294967296) : bits_TrailingZeros32.f x = some (t : Int) := by
  have t32 : t < 32 := lt_32 o0 (by omega)
  obtain ⟨n, rfl⟩ := Int.eq_ofNat_of_zero_le (show 0 ≤ o by omega)
  have hxn : x = ((n * 2 ^ t : Nat) : Int) := by rw [hx]; push_cast; rfl
  have hn1 : n * 2 ^ t < 4294967296 := by omega
  have p := Nat.mul_pos (show 0 < n by omega) (Nat.two_pow_pos t)
  have hand : Go.bits .and .u32 x (-x % 4294967296) = ((2 ^ t : Nat) : Int) := by
    rw [hxn, show -((n * 2 ^ t : Nat) : Int) % 4294967296 = ((4294967296 - n * 2 ^ t : Nat) : Int) by omega, bits_and_nat _ _ hn1 (by omega)]
    congr 1
    exact land_tz (by omega) hn1
  have hix : tz32ix x = ((2 ^ t : Nat) : Int) * 125613361 % 4294967296 / 134217728 := by unfold tz32ix; rw [hand]
  obtain ⟨c0, c1, c2⟩ := tz_tab ⟨t, t32⟩
  unfold bits_TrailingZeros32.f
  rw [if_neg (by omega), hix, if_pos ⟨c1, c2⟩, c0, w64_nat (by omega)]
/-- How many noughts there are at a number's end. -/
theorem trail_l0 (l : List Int) (h : U l) (hb : l.length ≤ 1073741824) (n : Nat) : ∀ (i : Nat) (o : Int) (t : Nat), n + i = l.length → 0 < o → o % 2 = 1 → val (l.drop i) = o * 2 ^ t →
    ∃ K, ∀ k, K ≤ k → dy_trailing.l0 k ((32 * i : Nat) : Int) l (l.length : Int) (i : Int) = some ((32 * i + t : Nat) : Int) := by
  induction n with
  | zero =>
    intro i o t hi o0 o1 hv
    rw [show i = l.length by omega, List.drop_length, val_nil] at hv
    have := Int.mul_pos o0 (p2_pos t)
    omega
  | succ n ih =>
    intro i o t hi o0 o1 hv
    have hv0 := hv
    rw [val_drop (by omega)] at hv
    obtain ⟨g0, g1⟩ := U_getD h i
    by_cases hz : l.getD i 0 = 0
    · rw [hz, Int.zero_add] at hv
      have ht : 32 ≤ t := by
        apply Nat.le_of_not_lt
        intro hh
        have e : (4294967296 : Int) = 2 ^ (32 - t) * 2 ^ t := by rw [← p2_add, show 32 - t + t = 32 by omega]; decide
        rw [e, Int.mul_assoc, Int.mul_comm (2 ^ t), ← Int.mul_assoc] at hv
        have := eq_of_p t hv
        rw [show 32 - t = (31 - t) + 1 by omega, p2_succ, Int.mul_assoc] at this
        omega
      obtain ⟨m, rfl⟩ : ∃ m, t = m + 32 := ⟨t - 32, by omega⟩
      have hv2 : val (l.drop (i + 1)) = o * 2 ^ m := by
        rw [p2_add, show (2 : Int) ^ 32 = 4294967296 by decide, ← Int.mul_assoc] at hv
        omega
      obtain ⟨K, hK⟩ := ih (i + 1) o m (by omega) o0 o1 hv2
      refine ⟨K + 1, fun k hk => ?_⟩
      obtain ⟨k, rfl⟩ : ∃ m, k = m + 1 := ⟨k - 1, by omega⟩
      simp only [dy_trailing.l0]
      rw [if_pos (by omega), if_pos (by omega), if_pos (by omega), rd_eq, Int.toNat_natCast, if_pos hz, w64_succ (by omega), show wrap64 (((32 * i : Nat) : Int) + 32) = ((32 * (i + 1) : Nat) : Int) by rw [w64 (by omega) (by omega)]; omega, hK k (by omega)]
      congr 2
      omega
    · obtain ⟨o', ho'⟩ : ∃ o' : Int, 0 < o' ∧ o' % 2 = 1 ∧ l.getD i 0 = o' * 2 ^ t := by
        have ht : t < 32 := by
          apply Nat.lt_of_not_le
          intro hh
          obtain ⟨m, rfl⟩ : ∃ m, t = m + 32 := ⟨t - 32, by omega⟩
          rw [p2_add, show (2 : Int) ^ 32 = 4294967296 by decide, ← Int.mul_assoc] at hv
          omega
        have e : (4294967296 : Int) = 2 ^ (32 - t) * 2 ^ t := by rw [← p2_add, show 32 - t + t = 32 by omega]; decide
        have e1 : l.getD i 0 = (o - 2 ^ (32 - t) * val (l.drop (i + 1))) * 2 ^ t := by
          rw [Int.sub_mul, ← hv, Int.mul_assoc, Int.mul_comm (val _), ← Int.mul_assoc, ← e]
          omega
        refine ⟨_, pos_of_p t (by rw [← e1]; omega), ?_, e1⟩
        rw [show 32 - t = (31 - t) + 1 by omega, p2_succ, Int.mul_assoc]
        omega
      obtain ⟨q0, q1, q2⟩ := ho'
      refine ⟨1, fun k hk => ?_⟩
      obtain ⟨k, rfl⟩ : ∃ m, k = m + 1 := ⟨k - 1, by omega⟩
      have t32 : t < 32 := lt_32 q0 (by omega)
      simp only [dy_trailing.l0]
      rw [if_pos (by omega), if_pos (by omega), if_pos (by omega), rd_eq, Int.toNat_natCast, if_neg hz, tz_limb q0 q1 q2 g1, Option.bind_some, w64_add (by omega)]
theorem trail_ev (l : List Int) (h : U l) (hb : l.length ≤ 1073741824) {o : Int} {t : Nat} (o0 : 0 < o) (o1 : o % 2 = 1) (hv : val l = o * 2 ^ t) : ∃ K, ∀ k, K ≤ k → dy_trailing.f k l = some (t : Int) := by
  obtain ⟨K, hK⟩ := trail_l0 l h hb l.length 0 o t (by omega) o0 o1 (by simpa using hv)
  refine ⟨K, fun k hk => ?_⟩
  have := hK k hk
  unfold dy_trailing.f
  simpa using this
/-- A number's odd part, and how many noughts are at its end. -/
theorem odd_ex {v : Int} (h : 0 < v) : ∃ (o : Int) (t : Nat), 0 < o ∧ o % 2 = 1 ∧ v = o * 2 ^ t := by
  obtain ⟨n, hn⟩ : ∃ n : Nat, n = v.toNat := ⟨_, rfl⟩
  induction n using Nat.strongRecOn generalizing v with
  | ind n ih =>
    by_cases h2 : v % 2 = 1
    · exact ⟨v, 0, h, h2, by simp⟩
    · obtain ⟨o, t, o0, o1, ho⟩ := ih (v / 2).toNat (by omega) (v := v / 2) (by omega) rfl
      refine ⟨o, t + 1, o0, o1, ?_⟩
      rw [p2_succ, ← Int.mul_assoc, Int.mul_comm o 2, Int.mul_assoc, ← ho]
      omega
theorem odd_un {o o' : Int} {t t' : Nat} (o1 : o % 2 = 1) (o1' : o' % 2 = 1) (h : o * 2 ^ t = o' * 2 ^ t') : o = o' ∧ t = t' := by
  have key : ∀ {a b : Int} {s u : Nat}, a % 2 = 1 → a * 2 ^ s = b * 2 ^ u → u ≤ s := by
    intro a b s u ha hh
    apply Nat.le_of_not_lt
    intro hl
    obtain ⟨m, rfl⟩ : ∃ m, u = (m + 1) + s := ⟨u - s - 1, by omega⟩
    rw [p2_add, ← Int.mul_assoc] at hh
    have := eq_of_p s hh
    rw [p2_succ] at this
    have e : b * (2 * 2 ^ m) = 2 * (b * 2 ^ m) := by rw [← Int.mul_assoc, Int.mul_comm b 2, Int.mul_assoc]
    omega
  have e : t = t' := Nat.le_antisymm (key o1' h.symm) (key o1 h)
  subst e
  exact ⟨eq_of_p t h, rfl⟩
end Go.Proofs.YthlhogcnfaiphaaDoor.T

namespace Go.Proofs.YthlhogcnfaiphaaDoor.T
set_option linter.unusedVariables false
set_option linter.unusedSimpArgs false
open Go.RowKit Go.Proofs.YthlhogcnfaiphaaDoorW.PrintWords Go.Proofs.YthlhogcnfaiphaaDoorW.PrintMore Go.Proofs.YthlhogcnfaiphaaDoor.PA

/-- May a number be? -/
def mayw (b : Bool) (l : List Int) : Bool := if l.length = 0 then !b else (l.getD (l.length - 1) 0 != 0)
theorem wmay_eq (b : Bool) (l : List Int) (hb : l.length ≤ 1073741824) : whole_May.f b l = some (mayw b l) := by
  unfold whole_May.f mayw
  by_cases h : l.length = 0
  · rw [if_pos (by omega), if_pos h]
  · have w : wrap64 ((l.length : Int) - 1) = ((l.length - 1 : Nat) : Int) := w64_pred (by omega) (by omega)
    rw [if_neg (by omega), if_neg h, w, if_pos (by omega), if_pos (by omega), rd_eq, Int.toNat_natCast]
/-- Which number s * 2^e is, as the document has it: with odd limbs, or nought where an exponent is too far. -/
def Dv (d : Dd) (s e : Int) : Prop := (s = 0 ∧ d = (false, [], 0)) ∨ ∃ (o : Int) (t : Nat), 0 < o ∧ o % 2 = 1 ∧ s ≠ 0 ∧ (s.natAbs : Int) = o * 2 ^ t ∧
  d = if -4194304 ≤ e ∧ e ≤ 4194304 ∧ e + t ≤ 4194304 then (decide (s < 0), lim o, e + t) else (false, [], 0)
theorem Dv.ex (s e : Int) : ∃ d, Dv d s e := by
  by_cases h : s = 0
  · exact ⟨_, .inl ⟨h, rfl⟩⟩
  · obtain ⟨o, t, o0, o1, ho⟩ := odd_ex (v := s.natAbs) (by omega)
    exact ⟨_, .inr ⟨o, t, o0, o1, h, ho, rfl⟩⟩
theorem Dv.un {d d' : Dd} {s e : Int} (h : Dv d s e) (h' : Dv d' s e) : d = d' := by
  rcases h with ⟨h0, h⟩ | ⟨o, t, o0, o1, s0, hs, h⟩ <;> rcases h' with ⟨h0', h'⟩ | ⟨o', t', o0', o1', s0', hs', h'⟩
  · rw [h, h']
  · exact absurd h0 s0'
  · exact absurd h0' s0
  · obtain ⟨rfl, rfl⟩ := odd_un o1 o1' (hs.symm.trans hs')
    rw [h, h']
/-- What is made once is not turned by making it again. -/
theorem Dv.again {d : Dd} {s e : Int} (h : Dv d s e) : Dv d (sg d.1 (val d.2.1)) d.2.2 := by
  rcases h with ⟨h0, rfl⟩ | ⟨o, t, o0, o1, s0, hs, rfl⟩
  · exact .inl ⟨rfl, rfl⟩
  · split
    · rename_i hc
      simp only
      rw [val_lim (by omega)]
      refine .inr ⟨o, 0, o0, o1, sg_ne _ o0, by rw [sg_abs _ (by omega)]; simp, ?_⟩
      rw [if_pos ⟨by omega, by omega, by omega⟩, sg_lt _ o0]
      simp
    · exact .inl ⟨rfl, rfl⟩
theorem Dv.U {d : Dd} {s e : Int} (h : Dv d s e) : U d.2.1 := by
  rcases h with ⟨h0, rfl⟩ | ⟨o, t, o0, o1, s0, hs, rfl⟩
  · exact U_nil
  · split
    · exact U_lim (by omega)
    · exact U_nil
theorem Dv.le {d : Dd} {s e : Int} (h : Dv d s e) : val d.2.1 ≤ s.natAbs := by
  rcases h with ⟨h0, rfl⟩ | ⟨o, t, o0, o1, s0, hs, rfl⟩
  · simp
  · split
    · simp only
      rw [val_lim (by omega), hs]
      have := Int.mul_le_mul_of_nonneg_left (show 1 ≤ (2 : Int) ^ t by have := p2_pos t; omega) (show 0 ≤ o by omega)
      omega
    · simp
theorem Dv.len {d : Dd} {s e : Int} {L : Nat} (h : Dv d s e) (hb : B s L) : d.2.1.length ≤ L := by
  have l := h.le
  rcases h with ⟨h0, rfl⟩ | ⟨o, t, o0, o1, s0, hs, rfl⟩
  · simp
  · split at l
    · rename_i hc
      rw [if_pos hc]
      simp only at l ⊢
      rw [val_lim (by omega)] at l
      exact lim_len (by omega) _ (Int.lt_of_le_of_lt l hb)
    · rename_i hc
      rw [if_neg hc]; simp
theorem Dv.E {d : Dd} {s e : Int} (h : Dv d s e) : -4194304 ≤ d.2.2 ∧ d.2.2 ≤ 4194304 := by
  rcases h with ⟨h0, rfl⟩ | ⟨o, t, o0, o1, s0, hs, rfl⟩
  · simp
  · split
    · simp only; omega
    · simp
/-- One that is no nought: its odd limbs. -/
theorem Dv.odd {d : Dd} {s e : Int} (h : Dv d s e) : d = (false, [], 0) ∨ ∃ o : Int, 0 < o ∧ o % 2 = 1 ∧ d.2.1 = lim o := by
  rcases h with ⟨h0, rfl⟩ | ⟨o, t, o0, o1, s0, hs, rfl⟩
  · exact .inl rfl
  · split
    · exact .inr ⟨o, o0, o1, rfl⟩
    · exact .inl rfl
theorem within_eq (e : Int) : dy_within.f e = some (decide (-4194304 ≤ e ∧ e ≤ 4194304)) := by
  unfold dy_within.f
  by_cases h : e ≥ -4194304
  · rw [if_pos h]; congr 1; exact decide_eq_decide.2 ⟨fun h2 => ⟨h, h2⟩, fun h2 => h2.2⟩
  · rw [if_neg h, decide_eq_false (fun h2 => h h2.1)]
theorem sgn_ne {x : Int} (h : x ≠ 0) : sgn x ≠ 0 := by
  rcases Int.lt_trichotomy x 0 with h1 | h1 | h1
  · rw [sgn_neg h1]; decide
  · exact absurd h1 h
  · rw [sgn_pos h1]; decide
theorem t_le {l : List Int} (h : U l) {o : Int} {t : Nat} (o0 : 0 < o) (hv : val l = o * 2 ^ t) : t ≤ 32 * l.length := by
  apply Nat.le_of_not_lt
  intro hh
  have h1 := val_lt h
  rw [p2_limb] at h1
  have h2 := p2_mono (show 32 * l.length ≤ t by omega)
  have h3 := mul_le_p t (show 1 ≤ o by omega)
  omega
theorem shr_odd {o : Int} {t : Nat} (o0 : 0 < o) : shrv (o * 2 ^ t) t = o := by
  unfold shrv
  by_cases h : (t : Int) < 1
  · rw [if_pos h, show t = 0 by omega]; simp
  · rw [if_neg h, Int.toNat_natCast, Int.mul_ediv_cancel _ (by have := p2_pos t; omega)]
theorem mk_ev (neg : Bool) (l : List Int) (e : Int) (h : U l) (hb : l.length ≤ 100000000) {d : Dd} (hd : Dv d (sg neg (val l)) e) : ∃ K, ∀ k, K ≤ k → dy_Make.f k neg l e = some d := by
  obtain ⟨K1, h1⟩ := sign_ev neg l h (by omega)
  have hn := val_nonneg h
  rcases hd with ⟨hs, rfl⟩ | ⟨o, t, o0, o1, s0, hs, rfl⟩
  · refine ⟨K1 + 1, fun k hk => ?_⟩
    obtain ⟨k, rfl⟩ : ∃ m, k = m + 1 := ⟨k - 1, by omega⟩
    unfold dy_Make.f
    rw [h1 _ (by omega), Option.bind_some, hs, if_pos sgn_zero]
    simp [dy_Make.j0]
  · have s1 := sgn_ne s0
    rw [sg_abs neg hn] at hs
    have v0 : 0 < val l := by rw [hs]; exact Int.mul_pos o0 (p2_pos t)
    have tl := t_le h o0 hs
    have tE : wrap64 (e + (t : Int)) = e + t ∨ ¬ (-4194304 ≤ e ∧ e ≤ 4194304) := by
      by_cases hw : -4194304 ≤ e ∧ e ≤ 4194304
      · left; exact w64 (by omega) (by omega)
      · right; exact hw
    obtain ⟨K2, h2⟩ := trail_ev l h (by omega) o0 o1 hs
    obtain ⟨K3, h3⟩ := shr_ev l t h (by omega)
    rw [hs, shr_odd o0] at h3
    have lo : (lim o).length ≤ l.length := lim_len (by omega) _ (by
      have := val_lt h
      have q := Int.mul_le_mul_of_nonneg_left (show 1 ≤ (2 : Int) ^ t by have := p2_pos t; omega) (show 0 ≤ o by omega)
      omega)
    obtain ⟨K4, h4⟩ := make_ev neg (lim o) (U_lim (by omega)) (by omega)
    rw [val_lim (by omega)] at h4
    have hnw : nw (sg neg o) = (decide (sg neg (val l) < 0), lim o) := by
      unfold nw
      rw [sg_lt neg o0, sg_lt neg v0, sg_abs neg (by omega)]
    rw [hnw] at h4
    refine ⟨K1 + K2 + K3 + K4 + 1, fun k hk => ?_⟩
    obtain ⟨k, rfl⟩ : ∃ m, k = m + 1 := ⟨k - 1, by omega⟩
    unfold dy_Make.f
    rw [h1 _ (by omega), Option.bind_some, if_neg s1, within_eq, Option.bind_some]
    by_cases hw : -4194304 ≤ e ∧ e ≤ 4194304
    · rw [decide_eq_true hw]
      simp only [dy_Make.j0, Bool.not_true, Bool.false_eq_true, if_false]
      rw [h2 k (by omega), Option.bind_some, tE.resolve_right (fun x => x hw), within_eq, Option.bind_some]
      by_cases hw2 : e + t ≤ 4194304
      · rw [decide_eq_true ⟨by omega, hw2⟩, if_pos rfl, h3 k (by omega), Option.bind_some, h4 k (by omega), Option.bind_some, if_pos ⟨hw.1, hw.2, hw2⟩]
      · rw [decide_eq_false (fun x => hw2 x.2), if_neg (by decide), if_neg (fun x => hw2 x.2.2)]
    · rw [decide_eq_false hw]
      simp only [dy_Make.j0, Bool.not_false, if_true]
      rw [if_neg (fun x => hw ⟨x.1, x.2.1⟩)]
theorem val_mod2 {l : List Int} (h : 0 < l.length) : val l % 2 = l.getD 0 0 % 2 := by
  cases l with
  | nil => simp at h
  | cons x l => simp only [val_cons, List.getD_cons_zero]; omega
theorem and1_u32 {x : Int} (h0 : 0 ≤ x) (h1 : x < 4294967296) : Go.bits .and .u32 x 1 = x % 2 := by
  obtain ⟨n, rfl⟩ := Int.eq_ofNat_of_zero_le h0
  have := bits_and_nat n 1 (by omega) (by decide)
  rw [Nat.and_one_is_mod] at this
  exact this
/-- May one be: then it is what it is made. -/
def mayd (neg : Bool) (l : List Int) (e : Int) : Bool := if l.length = 0 then (!neg && e == 0) else (mayw neg l && decide (l.getD 0 0 % 2 = 1) && decide (-4194304 ≤ e ∧ e ≤ 4194304))
theorem dmay_eq (neg : Bool) (l : List Int) (e : Int) (h : U l) (hb : l.length ≤ 1073741824) : dy_May.f neg l e = some (mayd neg l e) := by
  unfold dy_May.f mayd
  have g := U_getD h 0
  by_cases hl : l.length = 0
  · rw [if_pos (by omega), if_pos hl]
    cases neg <;> simp
  · rw [if_neg (by omega), if_neg hl, wmay_eq neg l hb, Option.bind_some]
    cases mayw neg l
    · simp
    · rw [if_pos rfl, if_pos (by omega), rd_eq, show (0 : Int).toNat = 0 from rfl, and1_u32 g.1 g.2, within_eq]
      by_cases h1 : l.getD 0 0 % 2 = 1
      · rw [if_pos h1, decide_eq_true h1]; simp
      · rw [if_neg h1, decide_eq_false h1]; simp
theorem mayd_dv {neg : Bool} {l : List Int} {e : Int} (h : U l) (hm : mayd neg l e = true) : Dv (neg, l, e) (sg neg (val l)) e := by
  have hn := val_nonneg h
  unfold mayd at hm
  by_cases hl : l.length = 0
  · rw [if_pos hl] at hm
    obtain rfl : l = [] := List.length_eq_zero_iff.1 hl
    cases neg
    · simp at hm; subst hm; exact .inl ⟨rfl, rfl⟩
    · simp at hm
  · rw [if_neg hl] at hm
    simp only [Bool.and_eq_true, decide_eq_true_eq] at hm
    obtain ⟨⟨m1, m2⟩, m3⟩ := hm
    unfold mayw at m1
    rw [if_neg hl] at m1
    have hlim := lim_of_norm h (fun _ => bne_iff_ne.1 m1)
    have v2 := val_mod2 (l := l) (by omega)
    have v0 : 0 < val l := by omega
    refine .inr ⟨val l, 0, v0, by omega, sg_ne neg v0, by rw [sg_abs neg hn]; simp, ?_⟩
    rw [if_pos ⟨m3.1, m3.2, by omega⟩, sg_lt neg v0, hlim]
    simp
theorem dfair_ev (neg : Bool) (l : List Int) (e : Int) (h : U l) (hb : l.length ≤ 100000000) {d : Dd} (hd : Dv d (sg neg (val l)) e) : ∃ K, ∀ k, K ≤ k → dy_fair.f k neg l e = some d := by
  obtain ⟨K1, h1⟩ := mk_ev neg l e h hb hd
  refine ⟨K1, fun k hk => ?_⟩
  unfold dy_fair.f
  rw [dmay_eq neg l e h (by omega), Option.bind_some]
  by_cases hm : mayd neg l e = true
  · rw [if_pos hm, hd.un (mayd_dv h hm)]
  · rw [if_neg hm, h1 k hk]; rfl
/-! layer 5 -/

end Go.Proofs.YthlhogcnfaiphaaDoor.T

namespace Go.Proofs.YthlhogcnfaiphaaDoor.T
set_option linter.unusedVariables false
set_option linter.unusedSimpArgs false
open Go.RowKit Go.Proofs.YthlhogcnfaiphaaDoorW.PrintWords Go.Proofs.YthlhogcnfaiphaaDoorW.PrintMore Go.Proofs.YthlhogcnfaiphaaDoor.PA

theorem mg_val {n : Nm} (h : mayP n) : (n.1 = 0 ∧ n.2.1 = false ∧ n.2.2.1 = 0 ∧ n.2.2.2 = 0 ∧ mg n = 0) ∨
    (n.1 = 1 ∧ 9223372036854775808 ≤ n.2.2.1 ∧ n.2.2.1 < 18446744073709551616 ∧ -1048576 ≤ n.2.2.2 ∧ n.2.2.2 ≤ 1048576 ∧ mg n = (n.2.2.2 + 1048576) * 9223372036854775808 + (n.2.2.1 - 9223372036854775808) + 1) ∨
    (n.1 = 2 ∧ n.2.2.1 = 0 ∧ n.2.2.2 = 0 ∧ mg n = 2097153 * 9223372036854775808 + 1) := by
  unfold mg
  rcases h with ⟨h1, h2, h3, h4⟩ | ⟨h1, h2, h3, h4, h5⟩ | ⟨h1, h2, h3⟩
  · exact .inl ⟨h1, h2, h3, h4, by rw [if_pos h1]⟩
  · exact .inr (.inl ⟨h1, h2, h3, h4, h5, by rw [if_neg (by omega), if_neg (by omega)]⟩)
  · exact .inr (.inr ⟨h1, h2, h3, by rw [if_neg (by omega), if_pos h1]⟩)
theorem mg_inj {a b : Nm} (ha : mayP a) (hb : mayP b) (h : mg a = mg b) : a.1 = b.1 ∧ a.2.2.1 = b.2.2.1 ∧ a.2.2.2 = b.2.2.2 := by
  rcases mg_val ha with ⟨a1, a2, a3, a4, a5⟩ | ⟨a1, a2, a3, a4, a5, a6⟩ | ⟨a1, a2, a3, a4⟩ <;> rcases mg_val hb with ⟨b1, b2, b3, b4, b5⟩ | ⟨b1, b2, b3, b4, b5, b6⟩ | ⟨b1, b2, b3, b4⟩ <;> omega
theorem kv_inj {a b : Nm} (ha : mayP a) (hb : mayP b) (h : kv a = kv b) : a = b := by
  have ma := (mg_bd ha).1
  have mb := (mg_bd hb).1
  have hm : mg a = mg b ∧ (mg a ≠ 0 → a.2.1 = b.2.1) := by
    unfold kv sg at h
    cases e : a.2.1 <;> cases f : b.2.1 <;> simp only [e, f, Bool.false_eq_true, if_false, if_true] at h
    · exact ⟨h, fun _ => rfl⟩
    · exact ⟨by omega, fun _ => by omega⟩
    · exact ⟨by omega, fun _ => by omega⟩
    · exact ⟨by omega, fun _ => rfl⟩
  obtain ⟨h1, h2, h3⟩ := mg_inj ha hb hm.1
  have h4 : a.2.1 = b.2.1 := by
    by_cases z : mg a = 0
    · rcases mg_val ha with ⟨a1, a2, a3, a4, a5⟩ | ⟨a1, a2, a3, a4, a5, a6⟩ | ⟨a1, a2, a3, a4⟩
      · rcases mg_val hb with ⟨b1, b2, b3, b4, b5⟩ | ⟨b1, b2, b3, b4, b5, b6⟩ | ⟨b1, b2, b3, b4⟩
        · rw [a2, b2]
        · omega
        · omega
      · omega
      · omega
    · exact hm.2 z
  obtain ⟨a1, a2, a3, a4⟩ := a
  obtain ⟨b1, b2, b3, b4⟩ := b
  simp only at h1 h2 h3 h4
  rw [h1, h2, h3, h4]
theorem nextv_may {n : Nm} (h : mayP n) (up : Bool) : mayP (nextv n up) := by
  unfold nextv
  split
  · exact .inr (.inl ⟨rfl, by simp, by simp, by simp, by simp⟩)
  · split
    · split
      · exact .inr (.inl ⟨rfl, by simp, by simp, by simp, by simp⟩)
      · exact h
    · have h1 : n.1 = 1 := by rcases h with h | h | h <;> omega
      obtain ⟨m0, m1, e0, e1⟩ := may_fin h h1
      split
      · exact grw_may m0 m1
      · split
        · exact bnd_may (by decide) (by decide)
        · exact .inr (.inl ⟨h1, by simp only; omega, by simp only; omega, e0, e1⟩)
/-- Of a finite one, or nought, the next ones lie one step off. -/
theorem kv_up {n : Nm} (h : mayP n) (h2 : n.1 = 2 → n.2.1 = true) : kv (nextv n true) = kv n + 1 := by
  unfold nextv
  rcases mg_val h with ⟨a1, a2, a3, a4, a5⟩ | ⟨a1, a2, a3, a4, a5, a6⟩ | ⟨a1, a2, a3, a4⟩
  · rw [if_pos a1]
    have e : kv n = 0 := by unfold kv sg; rw [a2, a5]; rfl
    rw [e]; rfl
  · rw [if_neg (by omega), if_neg (by omega)]
    have em : kv n = sg n.2.1 ((n.2.2.2 + 1048576) * 9223372036854775808 + (n.2.2.1 - 9223372036854775808) + 1) := by unfold kv; rw [a6]
    rw [em]
    generalize n.2.1 = s at *
    generalize n.2.2.1 = m at *
    generalize n.2.2.2 = E at *
    cases s
    · rw [if_pos (by decide)]
      unfold grw
      rw [if_pos ⟨rfl, rfl⟩]
      by_cases hc : m + 1 = 18446744073709551616
      · rw [if_pos hc]
        unfold bnd
        by_cases he : E + 1 > 1048576
        · rw [if_pos he]
          simp [kv, mg, sg]; omega
        · rw [if_neg he, if_neg (by omega)]
          simp [kv, mg, sg]; omega
      · rw [if_neg hc, bnd_in a4 a5]
        simp [kv, mg, sg]; omega
    · rw [if_neg (by decide)]
      by_cases hc : m = 9223372036854775808
      · rw [if_pos hc]
        unfold bnd
        rw [if_neg (by omega)]
        by_cases he : E - 1 < -1048576
        · rw [if_pos he]
          simp [kv, mg, sg]; omega
        · rw [if_neg he]
          simp [kv, mg, sg]; omega
      · rw [if_neg hc]
        unfold kv mg
        simp only
        rw [if_neg (by omega), if_neg (by omega)]
        simp [sg]; omega
  · rw [if_neg (by omega), if_pos a1, if_pos (h2 a1)]
    unfold kv
    rw [a4, h2 a1]
    rfl
theorem nxt_g {p : Nm} (k : Nat) (hk : 4 ≤ k) (up : Bool) (hp : mayP p) : num_Next.f k p.1 p.2.1 p.2.2.1 p.2.2.2 up = some (nextv p up) := next_g k hk p up hp

theorem may_g {p : Nm} (h : mayP p) : num_May.f p.1 p.2.1 p.2.2.1 p.2.2.2 = some true := by rw [may_eq _ _ _ _ (may_lt h)]; exact congrArg some (decide_eq_true h)
theorem nm_beq' (a b : Nm) : (a.1 == b.1 && (a.2.1 == b.2.1 && (a.2.2.1 == b.2.2.1 && (a.2.2.2 == b.2.2.2)))) = decide (a = b) := by
  obtain ⟨a1, a2, a3, a4⟩ := a
  obtain ⟨b1, b2, b3, b4⟩ := b
  rw [Bool.eq_iff_iff]
  simp [Prod.ext_iff]
end Go.Proofs.YthlhogcnfaiphaaDoor.T
