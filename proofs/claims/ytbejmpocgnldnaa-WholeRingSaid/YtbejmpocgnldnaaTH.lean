/- What the functions of package whole, and the document's answers for layer 2, compute: numbers with a sign. -/

import Derived.Test.YtbejmpocgnldnaaPZx1
import Derived.Test.YtbejmpocgnldnaaT9
namespace Go.Proofs.Ytbejmpocgnldnaa.T
set_option linter.unusedVariables false
set_option linter.unusedSimpArgs false
open Go.RowKit Go.Proofs.YtbejmpocgnldnaaW.PrintWords Go.Proofs.YtbejmpocgnldnaaW.PrintMore Go.Proofs.Ytbejmpocgnldnaa.PZ

/-- With the sign. -/
def sg (neg : Bool) (m : Int) : Int := if neg = true then -m else m
theorem sg_abs (neg : Bool) {v : Int} (hv : 0 ≤ v) : ((sg neg v).natAbs : Int) = v := by
  unfold sg
  cases neg
  · simp only [Bool.false_eq_true, if_false]; exact Int.natAbs_of_nonneg hv
  · simp only [if_true, Int.natAbs_neg]; exact Int.natAbs_of_nonneg hv
theorem sg_of (s : Int) : sg (decide (s < 0)) s.natAbs = s := by
  unfold sg
  by_cases h : s < 0
  · rw [decide_eq_true h, if_pos rfl]; omega
  · rw [decide_eq_false h, if_neg (by decide)]; omega
theorem sg_neg (n : Bool) (m : Int) : sg (!n) m = -sg n m := by cases n <;> simp [sg]
/-- A number as a sign and limbs. -/
def nw (s : Int) : Bool × List Int := (decide (s < 0), lim s.natAbs)
theorem nw_U (s : Int) : U (nw s).2 := U_lim (by omega)
theorem nw_sg (s : Int) : sg (nw s).1 (val (nw s).2) = s := by
  unfold nw
  simp only
  rw [val_lim (by omega)]
  exact sg_of s
theorem nw_of (neg : Bool) {v : Int} (hv : 0 ≤ v) : (neg && decide (v ≠ 0), lim v) = nw (sg neg v) := by
  unfold nw
  rw [sg_abs neg hv]
  congr 1
  unfold sg
  cases neg
  · simp only [Bool.false_and, Bool.false_eq_true, if_false]; exact (decide_eq_false (by omega)).symm
  · simp only [Bool.true_and, if_true]; rw [decide_eq_decide]; omega
/-- No longer than so many limbs. -/
def B (s : Int) (L : Nat) : Prop := (s.natAbs : Int) < pw L
theorem B_of (neg : Bool) {l : List Int} (h : U l) {L : Nat} (hl : l.length ≤ L) : B (sg neg (val l)) L := by
  unfold B
  rw [sg_abs neg (val_nonneg h)]
  exact Int.lt_of_lt_of_le (val_lt h) (pw_mono hl)
theorem B_len {s : Int} {L : Nat} (h : B s L) : (nw s).2.length ≤ L := lim_len (by omega) L h
theorem B_add {s t : Int} {L M : Nat} (hs : B s L) (ht : B t M) : B (s + t) (max L M + 1) := by
  unfold B at *
  have h5 := pw_mono (show L ≤ max L M by omega)
  have h6 := pw_mono (show M ≤ max L M by omega)
  rw [pw_succ]
  omega
theorem B_neg {s : Int} {L : Nat} (h : B s L) : B (-s) L := by unfold B at *; rw [Int.natAbs_neg]; exact h
theorem B_mul {s t : Int} {L M : Nat} (hs : B s L) (ht : B t M) : B (s * t) (L + M) := by
  unfold B at *
  rw [Int.natAbs_mul, Int.natCast_mul, pw_add]
  have p := pw_pos L
  have e1 := Int.mul_le_mul_of_nonneg_right (show (s.natAbs : Int) ≤ pw L by omega) (show (0 : Int) ≤ t.natAbs by omega)
  have e2 := Int.mul_lt_mul_of_pos_left ht p
  omega
theorem B_mono {s : Int} {L M : Nat} (h : B s L) (hm : L ≤ M) : B s M := Int.lt_of_lt_of_le h (pw_mono hm)
theorem B_le {s t : Int} {L : Nat} (h : B t L) (hs : s.natAbs ≤ t.natAbs) : B s L := by unfold B at *; omega
theorem make_ev (neg : Bool) (l : List Int) (h : U l) (hb : l.length ≤ 1073741824) : ∃ K, ∀ k, K ≤ k → whole_Make.f k neg l = some (nw (sg neg (val l))) := by
  obtain ⟨K, hK⟩ := trim_ev l h hb
  refine ⟨K, fun k hk => ?_⟩
  have hn := val_nonneg h
  rw [← nw_of neg hn]
  unfold whole_Make.f
  rw [hK k hk, Option.bind_some]
  cases neg
  · rfl
  · rw [if_pos rfl]
    congr 2
    rw [Bool.true_and, decide_eq_decide]
    have := lim_nil_iff hn
    omega
theorem rmake_ev (neg : Bool) (l : List Int) (h : U l) (hb : l.length ≤ 1073741824) : ∃ K, ∀ k, K ≤ k → pelorusref02_Make.f k neg l = some (nw (sg neg (val l))) := by
  obtain ⟨K, hK⟩ := rtrim_ev l h hb
  refine ⟨K, fun k hk => ?_⟩
  have hn := val_nonneg h
  rw [← nw_of neg hn]
  unfold pelorusref02_Make.f
  rw [hK k hk, Option.bind_some]
  cases neg
  · rfl
  · rw [if_pos rfl]
    congr 2
    rw [Bool.true_and, decide_eq_decide]
    have := lim_nil_iff hn
    omega
theorem sgn_sg (neg : Bool) {v : Int} (hv : 0 ≤ v) : sgn (sg neg v) = if v = 0 then 0 else if neg = true then -1 else 1 := by
  unfold sg
  by_cases h : v = 0
  · rw [if_pos h, h]; cases neg <;> rfl
  · rw [if_neg h]
    cases neg
    · exact sgn_pos (by simpa using (by omega : 0 < v))
    · exact sgn_neg (by simp only [if_true]; omega)
theorem sign_ev (neg : Bool) (l : List Int) (h : U l) (hb : l.length ≤ 1073741824) : ∃ K, ∀ k, K ≤ k → whole_Sign.f k neg l = some (sgn (sg neg (val l))) := by
  obtain ⟨K, hK⟩ := len_ev l h hb
  refine ⟨K, fun k hk => ?_⟩
  have hn := val_nonneg h
  unfold whole_Sign.f
  rw [hK k hk, Option.bind_some, sgn_sg neg hn]
  by_cases z : val l = 0
  · rw [z, if_pos rfl, if_pos bl_zero]
  · have := bl_pos (n := val l) (by omega)
    rw [if_neg (by omega), if_neg z]
    cases neg <;> rfl
theorem rsign_ev (neg : Bool) (l : List Int) (h : U l) (hb : l.length ≤ 1073741824) : ∃ K, ∀ k, K ≤ k → pelorusref02_Sign.f k neg l = some (sgn (sg neg (val l))) := by
  obtain ⟨K, hK⟩ := rmake_ev neg l h hb
  refine ⟨K, fun k hk => ?_⟩
  have hn := val_nonneg h
  unfold pelorusref02_Sign.f
  rw [hK k hk, Option.bind_some, sgn_sg neg hn, ← nw_of neg hn]
  have := lim_nil_iff hn
  by_cases z : val l = 0
  · rw [if_pos z, if_pos (by simp only; omega)]
  · rw [if_neg z, if_neg (by simp only; omega), decide_eq_true z, Bool.and_true]
    cases neg <;> rfl
theorem from_ev (a : Int) (h0 : -9223372036854775808 ≤ a) (h1 : a ≤ 9223372036854775807) : ∃ K, ∀ k, K ≤ k → whole_From.f k a = some (nw a) := by
  have w : ∀ x : Int, IntKind.u64.wrap x = x % 18446744073709551616 := fun x => by rw [IntKind.wrap_u64]
  have key : ∀ u : Int, u = a.natAbs → ∃ K, ∀ k, K ≤ k → whole_Make.f k (decide (a < 0)) [u % 4294967296, u / 4294967296 % 4294967296] = some (nw a) := fun u hu => by
    obtain ⟨K, hK⟩ := make_ev (decide (a < 0)) [u % 4294967296, u / 4294967296 % 4294967296] (by simp [U]; omega) (by simp)
    have e : val [u % 4294967296, u / 4294967296 % 4294967296] = a.natAbs := by simp; omega
    rw [e, sg_of] at hK
    exact ⟨K, hK⟩
  by_cases z : a < 0
  · obtain ⟨K, hK⟩ := key (IntKind.u64.wrap (-(IntKind.u64.wrap a))) (by rw [w, w]; omega)
    refine ⟨K, fun k hk => ?_⟩
    unfold whole_From.f
    rw [if_pos z, hK k hk, Option.bind_some]
  · obtain ⟨K, hK⟩ := key (IntKind.u64.wrap a) (by rw [w]; omega)
    refine ⟨K, fun k hk => ?_⟩
    unfold whole_From.f
    rw [if_neg z, hK k hk, Option.bind_some]
theorem rfrom_ev (a : Int) (h0 : -9223372036854775808 ≤ a) (h1 : a ≤ 9223372036854775807) : ∃ K, ∀ k, K ≤ k → pelorusref02_From.f k a = some (nw a) := by
  have w : ∀ x : Int, IntKind.u64.wrap x = x % 18446744073709551616 := fun x => by rw [IntKind.wrap_u64]
  have key : ∀ u : Int, u = a.natAbs → ∃ K, ∀ k, K ≤ k → pelorusref02_Make.f k (decide (a < 0)) [Int.tmod u 4294967296 % 4294967296, (IntKind.u64.wrap (Int.tdiv u 4294967296)) % 4294967296] = some (nw a) := fun u hu => by
    rw [Int.tmod_eq_emod_of_nonneg (by omega), Int.tdiv_eq_ediv_of_nonneg (by omega), w]
    obtain ⟨K, hK⟩ := rmake_ev (decide (a < 0)) [u % 4294967296 % 4294967296, u / 4294967296 % 18446744073709551616 % 4294967296] (by simp [U]; omega) (by simp)
    have e : val [u % 4294967296 % 4294967296, u / 4294967296 % 18446744073709551616 % 4294967296] = a.natAbs := by simp; omega
    rw [e, sg_of] at hK
    exact ⟨K, hK⟩
  by_cases z : a < 0
  · obtain ⟨K, hK⟩ := key (IntKind.u64.wrap ((IntKind.u64.wrap (wrap64 (-(wrap64 (a + 1))))) + 1)) (by rw [w64 (x := a + 1) (by omega) (by omega), w64 (by omega) (by omega), w, w]; omega)
    refine ⟨K, fun k hk => ?_⟩
    unfold pelorusref02_From.f
    rw [if_pos z, hK k hk, Option.bind_some]
  · obtain ⟨K, hK⟩ := key (IntKind.u64.wrap a) (by rw [w]; omega)
    refine ⟨K, fun k hk => ?_⟩
    unfold pelorusref02_From.f
    rw [if_neg z, hK k hk, Option.bind_some]
theorem neg_ev (b : Bool) (l : List Int) (h : U l) (hb : l.length ≤ 1073741824) : ∃ K, ∀ k, K ≤ k → whole_Neg.f k b l = some (nw (-sg b (val l))) := by
  obtain ⟨K, hK⟩ := make_ev (!b) l h hb
  refine ⟨K, fun k hk => ?_⟩
  unfold whole_Neg.f
  rw [hK k hk, Option.bind_some, sg_neg]
theorem rneg_ev (b : Bool) (l : List Int) (h : U l) (hb : l.length ≤ 1073741824) : ∃ K, ∀ k, K ≤ k → pelorusref02_Neg.f k b l = some (nw (-sg b (val l))) := by
  obtain ⟨K, hK⟩ := rmake_ev (!b) l h hb
  refine ⟨K, fun k hk => ?_⟩
  unfold pelorusref02_Neg.f
  rw [hK k hk, Option.bind_some, sg_neg]
theorem addw_ev (b c : Bool) (l m : List Int) (hl : U l) (hm : U m) (bl : l.length ≤ 100000000) (bm : m.length ≤ 100000000) : ∃ K, ∀ k, K ≤ k → whole_Add.f k b l c m = some (nw (sg b (val l) + sg c (val m))) := by
  have nl := val_nonneg hl
  have nm := val_nonneg hm
  have ll := val_lt hl
  have lm := val_lt hm
  by_cases h : b = c
  · subst h
    obtain ⟨K1, a⟩ := add_ev l m hl hm (by omega) (by omega)
    obtain ⟨K2, d⟩ := make_ev b (lim (val l + val m)) (U_lim (by omega)) (by have := B_len (B_add (B_of false hl (Nat.le_refl _)) (B_of false hm (Nat.le_refl _))); simp only [sg, nw, Bool.false_eq_true, if_false] at this; rw [Int.natAbs_of_nonneg (by omega)] at this; omega)
    rw [val_lim (by omega)] at d
    refine ⟨K1 + K2, fun k hk => ?_⟩
    unfold whole_Add.f
    rw [if_pos (by simp), a k (by omega), Option.bind_some, d k (by omega), Option.bind_some]
    have e : sg b (val l + val m) = sg b (val l) + sg b (val m) := by unfold sg; split <;> omega
    rw [e]
  · have hq : ¬ (b == c) = true := by simpa using h
    have hc : c = !b := by cases b <;> cases c <;> simp_all
    obtain ⟨K1, a⟩ := sub_ev l m hl hm (by omega) (by omega)
    by_cases hlt : val l < val m
    · obtain ⟨K2, a2⟩ := sub_ev m l hm hl (by omega) (by omega)
      rw [if_neg (by omega)] at a2
      rw [if_pos hlt] at a
      obtain ⟨K3, d⟩ := make_ev c (lim (val m - val l)) (U_lim (by omega)) (by have := lim_len (n := val m - val l) (by omega) m.length (by omega); omega)
      rw [val_lim (by omega)] at d
      refine ⟨K1 + K2 + K3, fun k hk => ?_⟩
      unfold whole_Add.f
      rw [if_neg hq, a k (by omega), Option.bind_some, if_neg (by decide), a2 k (by omega), Option.bind_some]
      simp only
      rw [d k (by omega), Option.bind_some]
      have e : sg c (val m - val l) = sg b (val l) + sg c (val m) := by subst hc; unfold sg; cases b <;> simp <;> omega
      rw [e]
    · rw [if_neg hlt] at a
      obtain ⟨K3, d⟩ := make_ev b (lim (val l - val m)) (U_lim (by omega)) (by have := lim_len (n := val l - val m) (by omega) l.length (by omega); omega)
      rw [val_lim (by omega)] at d
      refine ⟨K1 + K3, fun k hk => ?_⟩
      unfold whole_Add.f
      rw [if_neg hq, a k (by omega), Option.bind_some, if_pos rfl]
      simp only
      rw [d k (by omega), Option.bind_some]
      have e : sg b (val l - val m) = sg b (val l) + sg c (val m) := by subst hc; unfold sg; cases b <;> simp <;> omega
      rw [e]
theorem raddw_ev (b c : Bool) (l m : List Int) (hl : U l) (hm : U m) (bl : l.length ≤ 100000000) (bm : m.length ≤ 100000000) : ∃ K, ∀ k, K ≤ k → pelorusref02_Add.f k b l c m = some (nw (sg b (val l) + sg c (val m))) := by
  have nl := val_nonneg hl
  have nm := val_nonneg hm
  have ll := val_lt hl
  have lm := val_lt hm
  by_cases h : b = c
  · subst h
    obtain ⟨K1, a⟩ := radd_ev l m hl hm (by omega) (by omega)
    obtain ⟨K2, d⟩ := rmake_ev b (lim (val l + val m)) (U_lim (by omega)) (by have := B_len (B_add (B_of false hl (Nat.le_refl _)) (B_of false hm (Nat.le_refl _))); simp only [sg, nw, Bool.false_eq_true, if_false] at this; rw [Int.natAbs_of_nonneg (by omega)] at this; omega)
    rw [val_lim (by omega)] at d
    refine ⟨K1 + K2, fun k hk => ?_⟩
    unfold pelorusref02_Add.f
    rw [if_pos (by simp), a k (by omega), Option.bind_some, d k (by omega), Option.bind_some]
    have e : sg b (val l + val m) = sg b (val l) + sg b (val m) := by unfold sg; split <;> omega
    rw [e]
  · have hq : ¬ (b == c) = true := by simpa using h
    have hc : c = !b := by cases b <;> cases c <;> simp_all
    obtain ⟨K1, a⟩ := rsub_ev l m hl hm (by omega) (by omega)
    by_cases hlt : val l < val m
    · obtain ⟨K2, a2⟩ := rsub_ev m l hm hl (by omega) (by omega)
      rw [if_neg (by omega)] at a2
      rw [if_pos hlt] at a
      obtain ⟨K3, d⟩ := rmake_ev c (lim (val m - val l)) (U_lim (by omega)) (by have := lim_len (n := val m - val l) (by omega) m.length (by omega); omega)
      rw [val_lim (by omega)] at d
      refine ⟨K1 + K2 + K3, fun k hk => ?_⟩
      unfold pelorusref02_Add.f
      rw [if_neg hq, a k (by omega), Option.bind_some, if_neg (by decide), a2 k (by omega), Option.bind_some]
      simp only
      rw [d k (by omega), Option.bind_some]
      have e : sg c (val m - val l) = sg b (val l) + sg c (val m) := by subst hc; unfold sg; cases b <;> simp <;> omega
      rw [e]
    · rw [if_neg hlt] at a
      obtain ⟨K3, d⟩ := rmake_ev b (lim (val l - val m)) (U_lim (by omega)) (by have := lim_len (n := val l - val m) (by omega) l.length (by omega); omega)
      rw [val_lim (by omega)] at d
      refine ⟨K1 + K3, fun k hk => ?_⟩
      unfold pelorusref02_Add.f
      rw [if_neg hq, a k (by omega), Option.bind_some, if_pos rfl]
      simp only
      rw [d k (by omega), Option.bind_some]
      have e : sg b (val l - val m) = sg b (val l) + sg c (val m) := by subst hc; unfold sg; cases b <;> simp <;> omega
      rw [e]
theorem subw_ev (b c : Bool) (l m : List Int) (hl : U l) (hm : U m) (bl : l.length ≤ 100000000) (bm : m.length ≤ 100000000) : ∃ K, ∀ k, K ≤ k → whole_Sub.f k b l c m = some (nw (sg b (val l) - sg c (val m))) := by
  obtain ⟨K1, h1⟩ := neg_ev c m hm (by omega)
  have lb := B_len (B_neg (B_of c hm (Nat.le_refl _)))
  obtain ⟨K2, h2⟩ := addw_ev b (nw (-sg c (val m))).1 l (nw (-sg c (val m))).2 hl (nw_U _) bl (by omega)
  rw [nw_sg, ← Int.sub_eq_add_neg] at h2
  refine ⟨K1 + K2, fun k hk => ?_⟩
  unfold whole_Sub.f
  rw [h1 k (by omega), Option.bind_some, h2 k (by omega), Option.bind_some]
theorem rsubw_ev (b c : Bool) (l m : List Int) (hl : U l) (hm : U m) (bl : l.length ≤ 100000000) (bm : m.length ≤ 100000000) : ∃ K, ∀ k, K ≤ k → pelorusref02_Sub.f k b l c m = some (nw (sg b (val l) - sg c (val m))) := by
  obtain ⟨K1, h1⟩ := rneg_ev c m hm (by omega)
  have lb := B_len (B_neg (B_of c hm (Nat.le_refl _)))
  obtain ⟨K2, h2⟩ := raddw_ev b (nw (-sg c (val m))).1 l (nw (-sg c (val m))).2 hl (nw_U _) bl (by omega)
  rw [nw_sg, ← Int.sub_eq_add_neg] at h2
  refine ⟨K1 + K2, fun k hk => ?_⟩
  unfold pelorusref02_Sub.f
  rw [h1 k (by omega), Option.bind_some, h2 k (by omega), Option.bind_some]
theorem cmpw_ev (b c : Bool) (l m : List Int) (hl : U l) (hm : U m) (bl : l.length ≤ 100000000) (bm : m.length ≤ 100000000) : ∃ K, ∀ k, K ≤ k → whole_Cmp.f k b l c m = some (sgn (sg b (val l) - sg c (val m))) := by
  have nl := val_nonneg hl
  have nm := val_nonneg hm
  obtain ⟨K1, h1⟩ := sign_ev b l hl (by omega)
  obtain ⟨K2, h2⟩ := sign_ev c m hm (by omega)
  obtain ⟨K3, h3⟩ := cmp_ev l m hl hm (by omega) (by omega)
  refine ⟨K1 + K2 + K3, fun k hk => ?_⟩
  unfold whole_Cmp.f
  rw [h1 k (by omega), Option.bind_some, h2 k (by omega), Option.bind_some, h3 k (by omega), Option.bind_some]
  have sgc : ∀ x : Int, (x < 0 ∧ sgn x = -1) ∨ (x = 0 ∧ sgn x = 0) ∨ (0 < x ∧ sgn x = 1) := fun x => by
    unfold sgn
    by_cases h : x < 0
    · exact .inl ⟨h, if_pos h⟩
    · by_cases h2 : 0 < x
      · exact .inr (.inr ⟨h2, by rw [if_neg h, if_pos h2]⟩)
      · exact .inr (.inl ⟨by omega, by rw [if_neg h, if_neg h2]⟩)
  have ca := sgc (sg b (val l))
  have cb := sgc (sg c (val m))
  have cc := sgc (sg b (val l) - sg c (val m))
  have cd := sgc (val l - val m)
  have ka : sg b (val l) = val l ∨ sg b (val l) = -val l := by unfold sg; split <;> omega
  have kb : sg c (val m) = val m ∨ sg c (val m) = -val m := by unfold sg; split <;> omega
  by_cases x1 : sgn (sg b (val l)) < sgn (sg c (val m))
  · rw [if_pos x1]; congr 1; omega
  rw [if_neg x1]
  by_cases x2 : sgn (sg b (val l)) > sgn (sg c (val m))
  · rw [if_pos x2]; congr 1; omega
  rw [if_neg x2]
  congr 1
  rcases ca with ⟨g1, g2⟩ | ⟨g1, g2⟩ | ⟨g1, g2⟩
  · rw [g2, w64 (by omega) (by omega)]; omega
  · rw [g2, Int.zero_mul, w64 (by decide) (by decide)]; omega
  · rw [g2, Int.one_mul, w64 (by omega) (by omega)]; omega
theorem same_ev (b c : Bool) (l m : List Int) (hl : U l) (hm : U m) (bl : l.length ≤ 100000000) (bm : m.length ≤ 100000000) : ∃ K, ∀ k, K ≤ k → whole_Same.f k b l c m = some (decide (sg b (val l) = sg c (val m))) := by
  obtain ⟨K, h⟩ := cmpw_ev b c l m hl hm bl bm
  refine ⟨K, fun k hk => ?_⟩
  unfold whole_Same.f
  rw [h k hk, Option.bind_some]
  congr 1
  rw [Bool.eq_iff_iff, beq_iff_eq, decide_eq_true_iff]
  unfold sgn
  split <;> (try split) <;> omega
theorem rcmpw_ev (b c : Bool) (l m : List Int) (hl : U l) (hm : U m) (bl : l.length ≤ 100000000) (bm : m.length ≤ 100000000) : ∃ K, ∀ k, K ≤ k → pelorusref02_Cmp.f k b l c m = some (sgn (sg b (val l) - sg c (val m))) := by
  obtain ⟨K1, h1⟩ := rsubw_ev b c l m hl hm bl bm
  have lb := B_len (B_add (B_of b hl (Nat.le_refl _)) (B_neg (B_of c hm (Nat.le_refl _))))
  rw [← Int.sub_eq_add_neg] at lb
  obtain ⟨K2, h2⟩ := rsign_ev (nw (sg b (val l) - sg c (val m))).1 (nw (sg b (val l) - sg c (val m))).2 (nw_U _) (by omega)
  rw [nw_sg] at h2
  refine ⟨K1 + K2, fun k hk => ?_⟩
  unfold pelorusref02_Cmp.f
  rw [h1 k (by omega), Option.bind_some, h2 k (by omega), Option.bind_some]
theorem alike_ev (p : Bool × List Int) (hl : p.2.length ≤ 4611686018427387903) : ∃ K, ∀ k, K ≤ k → pelorusref02_Alike.f k p.1 p.2 p.1 p.2 = some true := by
  obtain ⟨K, h⟩ := rsame_ev p.2 hl
  refine ⟨K, fun k hk => ?_⟩
  unfold pelorusref02_Alike.f
  rw [h k hk, Option.bind_some, if_pos rfl]
  simp
end Go.Proofs.Ytbejmpocgnldnaa.T
