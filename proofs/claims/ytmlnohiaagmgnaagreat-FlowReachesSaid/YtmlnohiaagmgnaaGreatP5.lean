/- Plain laws: what the functions answer, without the program's memory (part 5). No condition. -/
import Derived.Test.YtmlnohiaagmgnaaGreatP4
import Derived.KernelRfl
import Derived.DataShut
import Derived.Laws.BitsLemmas
import Derived.Lib.EndianBits
namespace Go.Proofs.YtmlnohiaagmgnaaGreat.Rf.Pl
open Go Go.Proofs
set_option linter.unusedVariables false
set_option linter.unusedSimpArgs false
/-! ### the document's intervals and passes -/
theorem bad_eq (x : Iv) : bad x = (fairI x).1 := by
  unfold bad fairI
  cases h : mayI x
  · simp
  · simp
theorem good_fair {x : Iv} (h : (fairI x).1 = false) : fairI x = x ∧ may x.2.1 = true ∧ may x.2.2 = true := by
  have hx : fairI x = x := by
    unfold fairI at *
    split
    · rfl
    · rename_i hm; rw [if_neg hm] at h; cases h
  obtain ⟨a, b, _⟩ := fair_low h
  rw [hx] at a b
  exact ⟨hx, a, b⟩
theorem r9Two_ev {x y : Iv} (hx : wfI x) (hy : wfI y) : ∃ K, ∀ k, K ≤ k → pelorusref09_Two k x y = some (addI x y, ()) := by
  unfold addI
  rw [bad_eq, bad_eq]
  cases h1 : (fairI x).1
  · cases h2 : (fairI y).1
    · obtain ⟨e1, a1, a2⟩ := good_fair h1
      obtain ⟨e2, b1, b2⟩ := good_fair h2
      obtain ⟨K1, g1⟩ := add6_ev x.2.1 y.2.1 false hx.1 hy.1
      obtain ⟨K2, g2⟩ := add6_ev x.2.2 y.2.2 true hx.2 hy.2
      rw [e1] at h1
      rw [e2] at h2
      refine ⟨K1 + K2, fun k hk => ?_⟩
      simp only [pelorusref09_Two, rFair_eq, Option.bind_some, e1, e2, h1, h2, cond_false, g1 k (by omega), g2 k (by omega), rMake_eq, Bool.or_self, Bool.false_eq_true, if_false]
    · refine ⟨0, fun k _ => ?_⟩
      simp only [pelorusref09_Two, rFair_eq, Option.bind_some, h1, h2, cond_false, cond_true, rNone_eq]
      rfl
  · refine ⟨0, fun k _ => ?_⟩
    simp only [pelorusref09_Two, rFair_eq, Option.bind_some, h1, cond_true, rNone_eq]
    rfl
theorem r5Neg_eq (k : Nat) (n : Nm) : pelorusref05_Neg k n = some (neg n, ()) := by
  simp only [pelorusref05_Neg, rnum_fair_eq, Option.bind_some, neg]
  have h := may_cases (may_fair n)
  by_cases h1 : (fair n).1 = 0
  · have e : fair n = zN := by
      rcases h with h | ⟨h, _⟩ | ⟨h, _⟩
      · exact h
      · omega
      · omega
    rw [e]; rfl
  · have e : ((fair n).1 != 0) = true := by simpa using h1
    rw [e, cond_true, if_neg h1]
theorem r9Neg_eq (k : Nat) (x : Iv) : pelorusref09_Neg k x = some (negI x, ()) := by
  unfold negI
  rw [bad_eq]
  simp only [pelorusref09_Neg, rFair_eq, Option.bind_some]
  cases h1 : (fairI x).1
  · obtain ⟨e1, _, _⟩ := good_fair h1
    simp only [cond_false, e1, r5Neg_eq, Option.bind_some, rMake_eq, Bool.false_eq_true, if_false]
  · rw [mayI_none (mayI_fairI x) h1]
    rfl
theorem r9Sub_ev {x y : Iv} (hx : wfI x) (hy : wfI y) : ∃ K, ∀ k, K ≤ k → pelorusref09_Sub k x y = some (subI x y, ()) := by
  obtain ⟨K, h⟩ := r9Two_ev hx (wfI_negI hy)
  refine ⟨K, fun k hk => ?_⟩
  simp only [pelorusref09_Sub, r9Neg_eq, Option.bind_some, h k hk, subI]
theorem r9mul_loop (k : Nat) (Z : Iv) (p q : List Nm) (F G : Nat → Nm) (hp : p.length = 4) (hq : q.length = 4) (h : ∀ i, i < 4 → ∃ x y, p[i]? = some x ∧ q[i]? = some y ∧ pelorusref06_Mul k x y false = some (F i, ()) ∧ pelorusref06_Mul k x y true = some (G i, ())) :
    ∀ (j i m : Nat) (lo hi : List Nm), i + j = 4 → j < m → lo.length = i → hi.length = i →
    pelorusref09_Mul_l0 k m (((), p, q, (), (), (i : Int), ()), (Z, lo, hi, ())) = some (Sum.inl (((), (), (), ()), (Z, lo ++ (List.range' i j).map F, hi ++ (List.range' i j).map G, ())))
  | 0, i, m + 1, lo, hi, hi4, hm, _, _ => by
    have e : ¬ (i : Int) < 4 := by omega
    simp only [pelorusref09_Mul_l0, cond_f e]
    simp
  | j + 1, i, m + 1, lo, hi, hi4, hm, h1, h2 => by
    have e : (i : Int) < 4 := by omega
    obtain ⟨x, y, g1, g2, g3, g4⟩ := h i (by omega)
    have gl1 : (lo.length + [F i].length) * 32 ≤ 140737488355328 := by simp; omega
    have gl2 : (hi.length + [G i].length) * 32 ≤ 140737488355328 := by simp; omega
    have ih := r9mul_loop k Z p q F G hp hq h j (i + 1) m (lo ++ [F i]) (hi ++ [G i]) (by omega) (by omega) (by simp [h1]) (by simp [h2])
    simp only [pelorusref09_Mul_l0, cond_t e, if_pos (Int.natCast_nonneg i), Int.toNat_natCast, g1, g2, Option.bind_some, g3, g4, if_pos gl1, if_pos gl2, wrap_succ (show i ≤ 1000000000 by omega)]
    rw [ih, List.range'_succ]
    simp
theorem r9Mul_ev {x y : Iv} (hx : wfI x) (hy : wfI y) : ∃ K, ∀ k, K ≤ k → pelorusref09_Mul k x y = some (mulI x y, ()) := by
  unfold mulI
  rw [bad_eq, bad_eq]
  cases h1 : (fairI x).1
  · cases h2 : (fairI y).1
    · obtain ⟨e1, a1, a2⟩ := good_fair h1
      obtain ⟨e2, b1, b2⟩ := good_fair h2
      obtain ⟨K1, g1⟩ := mul6_ev x.2.1 y.2.1 false hx.1 hy.1
      obtain ⟨K2, g2⟩ := mul6_ev x.2.1 y.2.2 false hx.1 hy.2
      obtain ⟨K3, g3⟩ := mul6_ev x.2.2 y.2.1 false hx.2 hy.1
      obtain ⟨K4, g4⟩ := mul6_ev x.2.2 y.2.2 false hx.2 hy.2
      obtain ⟨K5, g5⟩ := mul6_ev x.2.1 y.2.1 true hx.1 hy.1
      obtain ⟨K6, g6⟩ := mul6_ev x.2.1 y.2.2 true hx.1 hy.2
      obtain ⟨K7, g7⟩ := mul6_ev x.2.2 y.2.1 true hx.2 hy.1
      obtain ⟨K8, g8⟩ := mul6_ev x.2.2 y.2.2 true hx.2 hy.2
      rw [e1] at h1
      rw [e2] at h2
      refine ⟨K1 + K2 + K3 + K4 + K5 + K6 + K7 + K8 + 10, fun k hk => ?_⟩
      have L := r9mul_loop k (false, zN, zN) [x.2.1, x.2.1, x.2.2, x.2.2] [y.2.1, y.2.2, y.2.1, y.2.2]
        (fun i => match i with | 0 => mulv (fair x.2.1) (fair y.2.1) false | 1 => mulv (fair x.2.1) (fair y.2.2) false | 2 => mulv (fair x.2.2) (fair y.2.1) false | _ => mulv (fair x.2.2) (fair y.2.2) false)
        (fun i => match i with | 0 => mulv (fair x.2.1) (fair y.2.1) true | 1 => mulv (fair x.2.1) (fair y.2.2) true | 2 => mulv (fair x.2.2) (fair y.2.1) true | _ => mulv (fair x.2.2) (fair y.2.2) true)
        rfl rfl (fun i hi => by
          match i, hi with
          | 0, _ => exact ⟨_, _, rfl, rfl, g1 k (by omega), g5 k (by omega)⟩
          | 1, _ => exact ⟨_, _, rfl, rfl, g2 k (by omega), g6 k (by omega)⟩
          | 2, _ => exact ⟨_, _, rfl, rfl, g3 k (by omega), g7 k (by omega)⟩
          | 3, _ => exact ⟨_, _, rfl, rfl, g4 k (by omega), g8 k (by omega)⟩) 4 0 k [] [] rfl (by omega) rfl rfl
      rw [show ((0 : Nat) : Int) = 0 from rfl] at L
      simp only [pelorusref09_Mul, rFair_eq, Option.bind_some, e1, e2, h1, h2, cond_false]
      erw [L]
      simp only [Option.bind_some, Sum.elim_inl, List.nil_append, List.range', List.map_cons, List.map_nil]
      rw [rLeast_eq k _ (by simp; omega) (by simp)]
      simp only [Option.bind_some]
      rw [rMost_eq k _ (by simp; omega) (by simp)]
      simp only [Option.bind_some, rMake_eq, Bool.or_self, Bool.false_eq_true, if_false]
    · refine ⟨0, fun k _ => ?_⟩
      simp only [pelorusref09_Mul, rFair_eq, Option.bind_some, h1, h2, cond_false, cond_true, rNone_eq]
      rfl
  · refine ⟨0, fun k _ => ?_⟩
    simp only [pelorusref09_Mul, rFair_eq, Option.bind_some, h1, cond_true, rNone_eq]
    rfl
theorem r18path_ev {x y : Iv} (hx : wfI x) (hy : wfI y) : ∃ K, ∀ k, K ≤ k → pelorusref18_path k x y = some (mulI x (mkI zN y.2.2), ()) := by
  obtain ⟨K, h⟩ := r9Mul_ev hx (wfI_mkI wfN_zN hy.2)
  refine ⟨K, fun k hk => ?_⟩
  simp only [pelorusref18_path, rMake_eq, Option.bind_some, h k hk]
theorem r17When_eq (k : Nat) (t : Tb) (i : Nat) (hi : i ≤ t.2.2.length) (hl : i ≤ 1000) : pelorusref17_When k t (i : Int) = some (timeN t i, ()) := by
  cases i with
  | zero => rfl
  | succ i =>
    simp only [pelorusref17_When]
    rw [beq_f (by omega), cond_false, wrap_pred (by omega), if_pos (Int.natCast_nonneg i), Int.toNat_natCast, slG_eq hi]
    rfl
theorem r18gate_eq (k : Nat) (t : Tb) (i : Nat) (hi : i ≤ t.2.2.length) (hl : i ≤ 1000) : pelorusref18_gate k t (i : Int) = some (gtN t i, ()) := by
  cases i with
  | zero => rfl
  | succ i =>
    simp only [pelorusref18_gate]
    rw [beq_f (by omega), cond_false, wrap_pred (by omega), if_pos (Int.natCast_nonneg i), Int.toNat_natCast, slG_eq hi]
    rfl
theorem r6Sub_ev {a b : Nm} (ha : wfN a) (hb : wfN b) (up : Bool) : ∃ K, ∀ k, K ≤ k → pelorusref06_Sub k a b up = some (addv (fair a) (neg b) up, ()) := by
  obtain ⟨K, h⟩ := add6_ev a (neg b) up ha (wfN_neg hb)
  refine ⟨K, fun k hk => ?_⟩
  simp only [pelorusref06_Sub, r5Neg_eq, Option.bind_some, h k hk, fair_may (may_neg b)]
def timeQ (t : Tb) (i : Int) : Iv := if mayT t = true ∧ 0 ≤ i ∧ i < t.2.2.length then dtI t i.toNat else noneI
theorem flow_TimeQ (k : Nat) (hk : 100 ≤ k) (t : Tb) (i : Int) (hw : wfT t) : flow_Time k t i = some (timeQ t i, ()) := by
  unfold timeQ
  cases hm : mayT t
  · simp [flow_Time, tube_May_eq k hk, hm, iv_None_eq]
  · by_cases h0 : i < 0
    · rw [if_neg (by omega)]
      simp [flow_Time, tube_May_eq k hk, hm, iv_None_eq, h0]
    · by_cases h1 : i ≥ (t.2.2.length : Int)
      · rw [if_neg (by omega)]
        simp [flow_Time, tube_May_eq k hk, hm, iv_None_eq, h0, h1]
      · obtain ⟨n, rfl⟩ := Int.eq_ofNat_of_zero_le (show 0 ≤ i by omega)
        rw [if_pos ⟨rfl, by omega, by omega⟩, flow_Time_eq k hk t n hm hw (by omega), Int.toNat_natCast]
theorem r18Time_ev (t : Tb) (i : Int) (hw : wfT t) : ∃ K, ∀ k, K ≤ k → pelorusref18_Time k t i = some (timeQ t i, ()) := by
  unfold timeQ
  cases hm : mayT t
  · refine ⟨100, fun k hk => ?_⟩
    simp [pelorusref18_Time, rMayT_eq k hk, hm, rNone_eq]
  · by_cases h0 : i < 0
    · refine ⟨100, fun k hk => ?_⟩
      rw [if_neg (by omega)]
      simp [pelorusref18_Time, rMayT_eq k hk, hm, rNone_eq, h0]
    · by_cases h1 : i ≥ (t.2.2.length : Int)
      · refine ⟨100, fun k hk => ?_⟩
        rw [if_neg (by omega)]
        simp [pelorusref18_Time, rMayT_eq k hk, hm, rNone_eq, h0, h1]
      · obtain ⟨n, rfl⟩ := Int.eq_ofNat_of_zero_le (show 0 ≤ i by omega)
        have hl := mayT_len hm
        have c1 : ¬ (n : Int) < 0 := by omega
        have hw1 := wfN_time hw (show n + 1 ≤ t.2.2.length by omega)
        have hw2 := wfN_time hw (show n ≤ t.2.2.length by omega)
        obtain ⟨K1, g1⟩ := r6Sub_ev hw1 hw2 false
        obtain ⟨K2, g2⟩ := r6Sub_ev hw1 hw2 true
        refine ⟨K1 + K2 + 100, fun k hk => ?_⟩
        rw [if_pos ⟨rfl, by omega, by omega⟩, Int.toNat_natCast]
        simp only [pelorusref18_Time, rMayT_eq k (show 100 ≤ k by omega), hm, Option.bind_some, Bool.not_true, cond_false, cond_f c1, cond_f h1, wrap_succ (show n ≤ 1000000000 by omega),
          r17When_eq k t n (by omega) (by omega), r17When_eq k t (n + 1) (by omega) (by omega), g1 k (by omega), g2 k (by omega), rMake_eq, dtI]
theorem timeQ_nat {t : Tb} {i : Nat} (hm : mayT t = true) (hi : i < t.2.2.length) : timeQ t (i : Int) = dtI t i := by
  unfold timeQ
  rw [if_pos ⟨hm, by omega, by omega⟩, Int.toNat_natCast]
theorem rfwd_loop (r : List Iv) (hr : ∀ x ∈ r, wfI x) (D : Nm × Iv × List Sl) : ∀ (j i : Nat) (t : Tb), i + j = r.length → r.length = t.2.2.length → mayT t = true → wfT t → ∃ K, ∀ k m, K ≤ k → K ≤ m →
    pelorusref18_Contract_l4 k m ((r, (), (), (i : Int), ()), (D, (t.1, (t.2.1, ())), t.2.2, ())) = some (Sum.inl ((r, (), (), ()), (D, ((fwds r j i t).1, ((fwds r j i t).2.1, ())), (fwds r j i t).2.2, ()))) := by
  intro j
  induction j with
  | zero =>
    intro i t hi hl ht hw
    refine ⟨1, fun k m hk hm => ?_⟩
    obtain ⟨m, rfl⟩ : ∃ i, m = i + 1 := ⟨m - 1, by omega⟩
    have e : ¬ (i : Int) < (r.length : Int) := by omega
    simp only [pelorusref18_Contract_l4, cond_f e, fwds]
  | succ j ih =>
    intro i t hi hl ht hw
    have hit : i < t.2.2.length := by omega
    have hir : i < r.length := by omega
    have h64 := mayT_len ht
    obtain ⟨K0, next⟩ := ih (i + 1) (fwd r t i) (by omega) (by rw [fwd_len]; exact hl) (mayT_fwd ht) (wfT_fwd hr hir hw hit)
    obtain ⟨K1, hT⟩ := r18Time_ev t (i : Int) hw
    rw [timeQ_nat ht hit] at hT
    have hg := wfI_gt hw (show i ≤ t.2.2.length by omega)
    obtain ⟨K2, hA⟩ := r9Mul_ev (hr _ (rtG_mem hir)) (wfI_dt hw hit)
    obtain ⟨K3, hB⟩ := r18path_ev (hr _ (rtG_mem hir)) (wfI_dt hw hit)
    obtain ⟨K4, sA⟩ := r9Two_ev hg (wfI_runA hr hir hw hit)
    obtain ⟨K5, sB⟩ := r9Two_ev hg (wfI_runB hr hir hw hit)
    refine ⟨K0 + K1 + K2 + K3 + K4 + K5 + 10, fun k m hk hm => ?_⟩
    obtain ⟨m, rfl⟩ : ∃ i, m = i + 1 := ⟨m - 1, by omega⟩
    have e : (i : Int) < (r.length : Int) := by omega
    have e0 : ¬ ((i + 1 : Nat) : Int) = 0 := by omega
    have g1 := r18gate_eq k t i (by omega) (by omega)
    have g2 := r18gate_eq k t (i + 1) (by omega) (by omega)
    rw [fwds, ← next k m (by omega) (by omega)]
    have hT := hT k (by omega)
    have hA := hA k (by omega)
    have hB := hB k (by omega)
    have sA := sA k (by omega)
    have sB := sB k (by omega)
    obtain ⟨st, inn, l⟩ := t
    simp only at hit hT hA hB hl h64 g1 g2
    simp only [pelorusref18_Contract_l4, cond_t e, wrap_succ (show i ≤ 1000000000 by omega), hT, Option.bind_some, g1, g2, if_pos (Int.natCast_nonneg i), Int.toNat_natCast, rtG_eq hir, hA]
    erw [sA]
    simp only [Option.bind_some, rTwo_eq k _ _ (show 3 ≤ k by omega), beq_f e0, cond_false, wrap_pred (show i ≤ 1000000000 by omega), if_pos (Int.natCast_nonneg i), Int.toNat_natCast, slG_eq hit, set_self hit, hB]
    erw [sB]
    simp only [Option.bind_some, rTwo_eq k _ _ (show 3 ≤ k by omega), List.set_set]
    rfl
theorem rbwd_loop (r : List Iv) (hr : ∀ x ∈ r, wfI x) (D : Nm × Iv × List Sl) : ∀ (j : Nat) (t : Tb), j ≤ r.length → r.length = t.2.2.length → mayT t = true → wfT t → ∃ K, ∀ k m, K ≤ k → K ≤ m →
    pelorusref18_Contract_l5 k m ((r, (), (), (j : Int) - 1, ()), (D, (t.1, (t.2.1, ())), t.2.2, ())) = some (Sum.inl (((), (), ()), (D, ((bwds r j t).1, ((bwds r j t).2.1, ())), (bwds r j t).2.2, ()))) := by
  intro j
  induction j with
  | zero =>
    intro t hi hl ht hw
    refine ⟨1, fun k m hk hm => ?_⟩
    obtain ⟨m, rfl⟩ : ∃ i, m = i + 1 := ⟨m - 1, by omega⟩
    have e : ¬ ((0 : Nat) : Int) - 1 ≥ 0 := by decide
    simp only [pelorusref18_Contract_l5, cond_f e, bwds]
  | succ j ih =>
    intro t hi hl ht hw
    have hit : j < t.2.2.length := by omega
    have hir : j < r.length := by omega
    have h64 := mayT_len ht
    obtain ⟨K0, next⟩ := ih (bwd r t j) (by omega) (by rw [bwd_len]; exact hl) (mayT_bwd ht hit) (wfT_bwd hr hir hw hit)
    obtain ⟨K1, hT⟩ := r18Time_ev t (j : Int) hw
    rw [timeQ_nat ht hit] at hT
    have hg : wfI (gtN t (j + 1)) := (hw.2.2 _ (slG_mem hit)).2.2
    obtain ⟨K2, hA⟩ := r9Mul_ev (hr _ (rtG_mem hir)) (wfI_dt hw hit)
    obtain ⟨K3, hB⟩ := r18path_ev (hr _ (rtG_mem hir)) (wfI_dt hw hit)
    obtain ⟨K4, sA⟩ := r9Sub_ev hg (wfI_runA hr hir hw hit)
    obtain ⟨K5, sB⟩ := r9Sub_ev hg (wfI_runB hr hir hw hit)
    refine ⟨K0 + K1 + K2 + K3 + K4 + K5 + 10, fun k m hk hm => ?_⟩
    obtain ⟨m, rfl⟩ : ∃ i, m = i + 1 := ⟨m - 1, by omega⟩
    have ej : ((j + 1 : Nat) : Int) - 1 = (j : Int) := by omega
    have e : (j : Int) ≥ 0 := by omega
    have wj : IntKind.i64.wrap ((j : Int) - 1) = (j : Int) - 1 := wrap_small (by omega) (by omega)
    have g1 := r18gate_eq k t j (by omega) (by omega)
    have g2 := r18gate_eq k t (j + 1) (by omega) (by omega)
    rw [bwds, ← next k m (by omega) (by omega), ej]
    have hT := hT k (by omega)
    have hA := hA k (by omega)
    have hB := hB k (by omega)
    have sA := sA k (by omega)
    have sB := sB k (by omega)
    obtain ⟨st, inn, l⟩ := t
    simp only at hit hT hA hB hl h64 g1 g2
    simp only [pelorusref18_Contract_l5, cond_t e, wrap_succ (show j ≤ 1000000000 by omega), hT, Option.bind_some, g1, g2, if_pos (Int.natCast_nonneg j), Int.toNat_natCast, rtG_eq hir, hA]
    erw [sA]
    simp only [Option.bind_some, rTwo_eq k _ _ (show 3 ≤ k by omega)]
    cases j with
    | zero =>
      have z : (((0 : Nat) : Int) == 0) = true := rfl
      simp only [z, cond_true, slG_eq hit, Option.bind_some, hB]
      erw [sB]
      simp only [Option.bind_some, rTwo_eq k _ _ (show 3 ≤ k by omega), wj]
      rfl
    | succ j =>
      have z : ¬ ((j + 1 : Nat) : Int) = 0 := by omega
      have hi1 : j < l.length := by omega
      have e : ∀ s : Sl, (l.set j s)[j + 1]? = some (slG l (j + 1)) := fun s => by rw [List.getElem?_set_ne (by omega)]; exact slG_eq hit
      simp only [beq_f z, cond_false, wrap_pred (show j ≤ 1000000000 by omega), if_pos (Int.natCast_nonneg j), Int.toNat_natCast, slG_eq hi1, Option.bind_some, e, hB]
      erw [sB]
      simp only [Option.bind_some, rTwo_eq k _ _ (show 3 ≤ k by omega)]
      rw [show ((j + 1 : Nat) : Int) - 1 = (j : Int) by omega]
      rfl
/-! ### the document's Contract -/
theorem cr_fit_loop (k : Nat) (hk : 3 ≤ k) (r : List Iv) (D2 D : Nm × Iv × List Sl) (st : Nm) (inn : Iv) (I : Nm × Iv × Unit) : ∀ (m : Nat) (s pre : List Sl), s.length < m → pre.length + s.length ≤ 1000000 →
    pelorusref18_Contract_l2 k m ((r, (), (), (), (), (pre.length : Int), ()), (D2, (st, inn, pre ++ s), D, I, fitN pre s.head?, ())) = some (Sum.inl ((r, (), (), (), ()), (D2, D, I, fitN (pre ++ s) none, ()))) := by
  intro m
  induction m with
  | zero => intro s pre hm; omega
  | succ m IH =>
    intro s pre hm hl
    cases s with
    | nil => simp [pelorusref18_Contract_l2]
    | cons y s =>
      simp only [List.length_cons] at hm hl
      have ih := IH s (pre ++ [y]) (by omega) (by simp; omega)
      have e : fitN (pre ++ [y]) s.head? = fitN pre (some y) ++ [(y.1, y.2.1, g2 y s.head?)] := fitN_snoc _ _ _
      simp only [mid_eq, len_snoc, e] at ih
      have hg := rgate_eq k hk st inn (pre ++ [y]) s (by simp; omega)
      rw [mid_eq, len_snoc, hd_snoc, nx_g2] at hg
      have gl : ((fitN pre (some y)).length + [(y.1, y.2.1, g2 y s.head?)].length) * 176 ≤ 140737488355328 := by rw [fitN_len]; simp; omega
      simp only [pelorusref18_Contract_l2, cond_t (len_lt pre y s), if_pos (Int.natCast_nonneg pre.length), at_mid, Option.bind_some, wrap_succ (show pre.length ≤ 1000000000 by omega), hg, List.head?_cons, if_pos gl]
      rw [ih]
theorem cr_void_loop (k : Nat) (r : List Iv) (D2 D : Nm × Iv × List Sl) (I : Nm × Iv × Unit) : ∀ (m : Nat) (s pre : List Sl), s.length < m → pre.length + s.length ≤ 1000000 →
    pelorusref18_Contract_l3 k m ((r, (), (), (), (pre.length : Int), ()), (D2, D, I, pre.map voidS ++ s, ())) = some (Sum.inl ((r, (), (), (), ()), (D2, D, I, (pre ++ s).map voidS, ()))) := by
  intro m
  induction m with
  | zero => intro s pre hm; omega
  | succ m IH =>
    intro s pre hm hl
    cases s with
    | nil => simp [pelorusref18_Contract_l3]
    | cons y s =>
      simp only [List.length_cons] at hm hl
      have ih := IH s (pre ++ [y]) (by omega) (by simp; omega)
      simp only [mid_eq, len_snoc] at ih
      have hlt : (pre.length : Int) < ((pre.map voidS ++ y :: s).length : Int) := by simp; omega
      simp only [pelorusref18_Contract_l3, cond_t hlt, rNone_eq, if_pos (Int.natCast_nonneg pre.length), Option.bind_some, get_mid _ _ s pre.length (show (pre.map voidS).length = pre.length by simp), set_mid _ _ _ s pre.length (show (pre.map voidS).length = pre.length by simp), wrap_succ (show pre.length ≤ 1000000000 by omega)]
      rw [show pre.map voidS ++ (y.1, noneI, noneI) :: s = (pre ++ [y]).map voidS ++ s by simp [voidS], ih]
theorem rrates_loop (k : Nat) (r : List Iv) (T : Tb) (D : Nm × Iv × List Sl) : ∀ (s pre : List Iv) (m : Nat), r = pre ++ s → s.length < m → pre.length + s.length ≤ 1000000 →
    pelorusref18_Contract_l0 k m ((r, (), (), (pre.length : Int), ()), (T, D, ())) = some (bif s.all mayI then Sum.inr (Sum.inl ((r, (), (), ()), (T, D, ()))) else Sum.inl (((), 1, ()), ((zN, ((false, zN, zN), [])), ())))
  | [], pre, m + 1, hr, hm, hl => by
    have e : ¬ (pre.length : Int) < (r.length : Int) := by rw [hr]; simp
    simp only [pelorusref18_Contract_l0, cond_f e]
    rfl
  | x :: s, pre, m + 1, hr, hm, hl => by
    simp only [List.length_cons] at hm hl
    have ih := rrates_loop k r T D s (pre ++ [x]) m (by rw [hr, mid_eq]) (by omega) (by simp; omega)
    rw [len_snoc] at ih
    have e : (pre.length : Int) < (r.length : Int) := by rw [hr]; exact len_lt _ _ _
    have g : r[Int.toNat (pre.length : Int)]? = some x := by rw [hr]; exact at_mid _ _ _
    cases hx : mayI x
    · simp only [pelorusref18_Contract_l0, cond_t e, if_pos (Int.natCast_nonneg pre.length), g, Option.bind_some, rMayI_eq, hx, List.all_cons, Bool.false_and, Bool.not_false, cond_true, cond_false]
    · simp only [pelorusref18_Contract_l0, cond_t e, if_pos (Int.natCast_nonneg pre.length), g, Option.bind_some, rMayI_eq, hx, List.all_cons, Bool.true_and, Bool.not_true, cond_false, wrap_succ (show pre.length ≤ 1000000000 by omega)]
      exact ih
theorem r18Contract_ev (t : Tb) (r : List Iv) (hw : wfT t) (hr : ∀ x ∈ r, wfI x) : ∃ K, ∀ k, K ≤ k → pelorusref18_Contract k t r = some ((contractT t r).1, (contractT t r).2, ()) := by
  unfold contractT
  cases hm : mayT t
  · refine ⟨200, fun k hk => ?_⟩
    simp only [pelorusref18_Contract, rMayT_eq k (show 100 ≤ k by omega), hm, Option.bind_some]
    rfl
  have hl := mayT_len hm
  by_cases hlen : r.length = t.2.2.length
  · have e : ((r.length : Int) != (t.2.2.length : Int)) = false := by simp [hlen]
    have h0 := fun k => rrates_loop k r t (zN, (false, zN, zN), []) r [] k rfl
    simp only [List.nil_append, List.length_nil] at h0
    rw [show ((0 : Nat) : Int) = 0 from rfl] at h0
    cases ha : r.all mayI
    · refine ⟨200, fun k hk => ?_⟩
      have h0 := h0 k (by omega) (by omega)
      rw [ha, cond_false] at h0
      simp only [pelorusref18_Contract, rMayT_eq k (show 100 ≤ k by omega), hm, Option.bind_some, Bool.not_true, cond_false, e]
      erw [h0]
      simp [hlen]
    · have hmF := mayT_fitT hm
      have hwF := wfT_fitT hw
      have hlF := fitT_len t
      obtain ⟨K1, f1⟩ := rfwd_loop r hr (zN, (false, zN, zN), []) r.length 0 (fitT t) (by omega) (by omega) hmF hwF
      have l1 := fwds_len r r.length 0 (fitT t)
      obtain ⟨K2, f2⟩ := rbwd_loop r hr (zN, (false, zN, zN), []) r.length (fwds r r.length 0 (fitT t)) (by omega) (by omega) (mayT_fwds hmF) (wfT_fwds hr (by omega) (by omega) hwF)
      refine ⟨K1 + K2 + 200, fun k hk => ?_⟩
      have h0 := h0 k (by omega) (by omega)
      rw [ha, cond_true] at h0
      have f1 := f1 k k (by omega) (by omega)
      have f2 := f2 k k (by omega) (by omega)
      rw [show ((0 : Nat) : Int) = 0 from rfl] at f1
      have wr : IntKind.i64.wrap ((r.length : Int) - 1) = (r.length : Int) - 1 := wrap_small (by omega) (by omega)
      have hg := rgate_eq k (by omega) t.1 t.2.1 [] t.2.2 (by simp)
      simp only [List.nil_append, List.length_nil, hd_nil] at hg
      rw [show ((0 : Nat) : Int) = 0 from rfl] at hg
      have hg : pelorusref17_gate k t 0 = some (nx t.2.1 t.2.2, ()) := hg
      have h2 := cr_fit_loop k (by omega) r (zN, (false, zN, zN), []) (zN, (false, zN, zN), []) t.1 t.2.1 (t.1, (nx t.2.1 t.2.2, ())) k t.2.2 [] (by omega) (by simp; omega)
      simp only [List.nil_append, List.length_nil, fitN] at h2
      rw [show ((0 : Nat) : Int) = 0 from rfl] at h2
      have tail : ∀ u : Tb, u = fitT t → (pelorusref18_Contract_l4 k k ((r, (), (), 0, ()), ((zN, ((false, zN, zN), [])), (u.1, (u.2.1, ())), u.2.2, ()))).bind (fun q64 =>
           Sum.elim (fun z96 =>
             (pelorusref18_Contract_l5 k k ((z96.1.1, (), (), (IntKind.i64.wrap ((z96.1.1.length : Int) - 1)), ()), ((z96.2.1.1, (z96.2.1.2.1, z96.2.1.2.2)), (z96.2.2.1.1, (z96.2.2.1.2.1, ())), z96.2.2.2.1, ()))).bind fun q97 =>
             Sum.elim (fun z98 =>
               (pelorusref17_Fit k (z98.2.2.1.1, z98.2.2.1.2.1, z98.2.2.2.1)).bind fun r99 =>
               some (r99.1, 0, ()))
              (fun q97' =>
               none) q97)
            (fun q64' =>
             none) q64) = (some (fitT (bwds r t.2.2.length (fwds r t.2.2.length 0 (fitT t))), 0, ()) : Option (HL [(.pair TNm (.pair TIv (.list TSl))), (.int .i64)])) := by
        intro u hu
        subst hu
        erw [f1]
        simp only [Option.bind_some, Sum.elim_inl]
        rw [wr]
        erw [f2]
        simp only [Option.bind_some, Sum.elim_inl, rFit_eq k (show 200 ≤ k by omega), hlen]
      have hwU := mayT_fitU hm
      have fl : (fitN t.2.2 none).length = t.2.2.length := fitN_len _ _
      have hE := rempty_eq k (t.1, nx t.2.1 t.2.2, fitN t.2.2 none) (by simp only [fl]; omega) (by simp only [fl]; omega)
      simp only [pelorusref18_Contract, rMayT_eq k (show 100 ≤ k by omega), hm, Option.bind_some, Bool.not_true, cond_false, e]
      erw [h0]
      simp only [Option.bind_some, Sum.elim_inr, Sum.elim_inl, rMayT_eq k (show 100 ≤ k by omega), hm, Bool.not_true, cond_false, hg, hlen, decide_true, Bool.and_self, if_true]
      erw [h2]
      simp only [Option.bind_some, Sum.elim_inl]
      erw [hE]
      simp only [Option.bind_some]
      have hU : (t.1, nx t.2.1 t.2.2, fitN t.2.2 none) = fitU t := rfl
      rw [hU]
      cases he : emptyT (fitU t)
      · have hF : fitT t = (t.1, nx t.2.1 t.2.2, fitN t.2.2 none) := by unfold fitT; rw [if_pos hm, if_neg (by rw [he]; decide)]; rfl
        simp only [cond_false]
        exact tail _ hF.symm
      · have hF : fitT t = (t.1, noneI, t.2.2.map voidS) := by unfold fitT; rw [if_pos hm, if_pos he]
        have h3 := cr_void_loop k r (zN, (false, zN, zN), []) (zN, (false, zN, zN), []) (t.1, (noneI, ())) k (fitN t.2.2 none) [] (by rw [fl]; omega) (by rw [fl]; simp; omega)
        simp only [List.nil_append, List.length_nil, List.map_nil] at h3
        rw [show ((0 : Nat) : Int) = 0 from rfl] at h3
        simp only [cond_true, rNone_eq, Option.bind_some]
        erw [h3]
        simp only [Option.bind_some, Sum.elim_inl]
        rw [fitN_ends]
        exact tail _ hF.symm
  · refine ⟨200, fun k hk => ?_⟩
    have e : ((r.length : Int) != (t.2.2.length : Int)) = true := by simp; omega
    simp only [pelorusref18_Contract, rMayT_eq k (show 100 ≤ k by omega), hm, Option.bind_some, Bool.not_true, cond_false, e, cond_true]
    simp [hlen]
/-! ### Reach; the laws FlowContracts and FlowReaches -/
def rl : List Nm → Int → Tb → Int × Tb
  | [], e, T => (e, T)
  | n :: s, e, T => if e = 0 then rl s (appT T n allI allI).2 (appT T n allI allI).1 else rl s e T
theorem rl_err : ∀ (s : List Nm) (e : Int) (T : Tb), e ≠ 0 → rl s e T = (e, T)
  | [], e, T, h => rfl
  | n :: s, e, T, h => by rw [rl, if_neg h, rl_err s e T h]
def reachT (x0 : Nm) (x1 : Iv) (x2 : List Nm) (x3 : List Iv) : Tb × Int :=
  if x2.length = x3.length then (if (rl x2 (newT x0 x1).2 (newT x0 x1).1).1 = 0 then contractT (rl x2 (newT x0 x1).2 (newT x0 x1).1).2 x3 else (zT, (rl x2 (newT x0 x1).2 (newT x0 x1).1).1)) else (zT, 1)
theorem wfI_all : wfI allI := ⟨wfN_inf _, wfN_inf _⟩
theorem wfT_zT : wfT zT := ⟨wfN_zN, ⟨wfN_zN, wfN_zN⟩, fun s hs => by cases hs⟩
theorem wfT_new {n : Nm} {x : Iv} (hn : wfN n) (hx : wfI x) : wfT (newT n x).1 := by
  unfold newT; split
  · exact ⟨hn, hx, fun s hs => by cases hs⟩
  · exact wfT_zT
theorem wfT_app {T : Tb} {n : Nm} (h : wfT T) (hn : wfN n) : wfT (appT T n allI allI).1 := by
  unfold appT
  split
  · split
    · exact wfT_zT
    · split
      · exact wfT_zT
      · refine ⟨h.1, h.2.1, fun s hs => ?_⟩
        rcases List.mem_append.1 hs with hs | hs
        · exact h.2.2 s hs
        · rw [List.mem_singleton.1 hs]; exact ⟨hn, wfI_all, wfI_all⟩
  · exact wfT_zT
theorem wfT_rl : ∀ (s : List Nm) (e : Int) (T : Tb), (∀ n ∈ s, wfN n) → wfT T → wfT (rl s e T).2
  | [], e, T, _, h => h
  | n :: s, e, T, hs, h => by
    rw [rl]
    split
    · exact wfT_rl s _ _ (fun m hm => hs m (by simp [hm])) (wfT_app h (hs n (by simp)))
    · exact wfT_rl s _ _ (fun m hm => hs m (by simp [hm])) h
theorem reach_loop (k : Nat) (hk : 100 ≤ k) (r : List Iv) (D : Nm × Iv × List Sl) : ∀ (m : Nat) (s pre : List Nm) (e : Int) (T : Tb), s.length < m → pre.length + s.length ≤ 1000000 →
    flow_Reach_l0 k m ((r, (), (), e, pre ++ s, ((pre ++ s).length : Int), (pre.length : Int), ()), (D, T, ())) = some (Sum.inl ((r, (), (), (rl s e T).1, ()), (D, (rl s e T).2, ()))) := by
  intro m
  induction m with
  | zero => intro s pre e T hm; omega
  | succ m IH =>
    intro s pre e T hm hl
    cases s with
    | nil => simp [flow_Reach_l0, rl]
    | cons x s =>
      simp only [List.length_cons] at hm hl
      have ih := fun e T => IH s (pre ++ [x]) e T (by omega) (by simp; omega)
      simp only [mid_eq, len_snoc] at ih
      simp only [flow_Reach_l0, cond_t (len_lt pre x s), if_pos (Int.natCast_nonneg pre.length), at_mid, Option.bind_some, iv_All_eq, tube_Append_eq k hk, wrap_succ (show pre.length ≤ 1000000000 by omega), rl]
      by_cases h : e = 0
      · rw [beq_t h, cond_true, if_pos h]; exact ih _ _
      · rw [beq_f h, cond_false, if_neg h]; exact ih _ _
theorem flow_Reach_eq (k : Nat) (hk : 200 ≤ k) (x0 : Nm) (x1 : Iv) (x2 : List Nm) (x3 : List Iv) (h0 : wfN x0) (h1 : wfI x1) (h2 : ∀ n ∈ x2, wfN n) (h3 : ∀ x ∈ x3, wfI x) (hl : x2.length ≤ 100) :
    flow_Reach k x0 x1 x2 x3 = some ((reachT x0 x1 x2 x3).1, (reachT x0 x1 x2 x3).2, ()) := by
  unfold reachT
  by_cases hlen : x2.length = x3.length
  · have e : ((x2.length : Int) != (x3.length : Int)) = false := by simp [hlen]
    have L := reach_loop k (by omega) x3 (zN, (false, zN, zN), []) k x2 [] (newT x0 x1).2 (newT x0 x1).1 (by omega) (by simp; omega)
    simp only [List.nil_append, List.length_nil] at L
    rw [show ((0 : Nat) : Int) = 0 from rfl] at L
    simp only [flow_Reach, e, cond_false, tube_New_eq k (show 100 ≤ k by omega), Option.bind_some]
    erw [L]
    rw [if_pos hlen]
    simp only [Option.bind_some, Sum.elim_inl]
    by_cases h : (rl x2 (newT x0 x1).2 (newT x0 x1).1).1 = 0
    · have hz : ((rl x2 (newT x0 x1).2 (newT x0 x1).1).1 != 0) = false := by simp [h]
      rw [if_pos h, hz, cond_false, flow_Contract_eq k hk _ x3 (wfT_rl _ _ _ h2 (wfT_new h0 h1)) h3]
      rfl
    · have hz : ((rl x2 (newT x0 x1).2 (newT x0 x1).1).1 != 0) = true := by simp [h]
      rw [if_neg h, hz, cond_true]
  · have e : ((x2.length : Int) != (x3.length : Int)) = true := by simp; omega
    simp only [flow_Reach, e, cond_true]
    rw [if_neg hlen]
theorem rreach_loop (k : Nat) (hk : 100 ≤ k) (r : List Iv) (D : Nm × Iv × List Sl) (x2 : List Nm) : ∀ (m : Nat) (s pre : List Nm) (e : Int) (T : Tb), x2 = pre ++ s → s.length < m → pre.length + s.length ≤ 1000000 →
    pelorusref18_Reach_l0 k m ((x2, r, (), (), e, (pre.length : Int), ()), (D, T, ())) = some (Sum.inl ((r, (), (), (rl s e T).1, ()), (D, (rl s e T).2, ()))) := by
  intro m
  induction m with
  | zero => intro s pre e T hx hm; omega
  | succ m IH =>
    intro s pre e T hx hm hl
    cases s with
    | nil =>
      have c : ¬ (pre.length : Int) < (x2.length : Int) := by rw [hx]; simp
      simp only [pelorusref18_Reach_l0, cond_f c, rl]
    | cons x s =>
      simp only [List.length_cons] at hm hl
      have ih := fun e T => IH s (pre ++ [x]) e T (by rw [hx, mid_eq]) (by omega) (by simp; omega)
      simp only [len_snoc] at ih
      have c : (pre.length : Int) < (x2.length : Int) := by rw [hx]; exact len_lt _ _ _
      have g : x2[Int.toNat (pre.length : Int)]? = some x := by rw [hx]; exact at_mid _ _ _
      simp only [pelorusref18_Reach_l0, cond_t c, if_pos (Int.natCast_nonneg pre.length), g, Option.bind_some, rAll_eq, rAppend_eq k hk, wrap_succ (show pre.length ≤ 1000000000 by omega), rl]
      by_cases h : e = 0
      · rw [beq_t h, cond_true, if_pos h]; exact ih _ _
      · rw [beq_f h, cond_false, if_neg h, rl_err s e T h]
theorem r18Reach_ev (x0 : Nm) (x1 : Iv) (x2 : List Nm) (x3 : List Iv) (h0 : wfN x0) (h1 : wfI x1) (h2 : ∀ n ∈ x2, wfN n) (h3 : ∀ x ∈ x3, wfI x) (hl : x2.length ≤ 100) :
    ∃ K, ∀ k, K ≤ k → pelorusref18_Reach k x0 x1 x2 x3 = some ((reachT x0 x1 x2 x3).1, (reachT x0 x1 x2 x3).2, ()) := by
  unfold reachT
  by_cases hlen : x2.length = x3.length
  · have e : ((x2.length : Int) != (x3.length : Int)) = false := by simp [hlen]
    obtain ⟨K, hK⟩ := r18Contract_ev (rl x2 (newT x0 x1).2 (newT x0 x1).1).2 x3 (wfT_rl _ _ _ h2 (wfT_new h0 h1)) h3
    refine ⟨K + 200, fun k hk => ?_⟩
    have L := rreach_loop k (by omega) x3 (zN, (false, zN, zN), []) x2 k x2 [] (newT x0 x1).2 (newT x0 x1).1 rfl (by omega) (by simp; omega)
    simp only [List.length_nil] at L
    rw [show ((0 : Nat) : Int) = 0 from rfl] at L
    simp only [pelorusref18_Reach, e, cond_false, rNew_eq k (show 100 ≤ k by omega), Option.bind_some]
    erw [L]
    rw [if_pos hlen]
    simp only [Option.bind_some, Sum.elim_inl]
    by_cases h : (rl x2 (newT x0 x1).2 (newT x0 x1).1).1 = 0
    · have hz : ((rl x2 (newT x0 x1).2 (newT x0 x1).1).1 != 0) = false := by simp [h]
      rw [if_pos h, hz, cond_false, hK k (by omega)]
      rfl
    · have hz : ((rl x2 (newT x0 x1).2 (newT x0 x1).1).1 != 0) = true := by simp [h]
      rw [if_neg h, hz, cond_true]
  · have e : ((x2.length : Int) != (x3.length : Int)) = true := by simp; omega
    refine ⟨0, fun k _ => ?_⟩
    simp only [pelorusref18_Reach, e, cond_true]
    rw [if_neg hlen]
/-! what wakes the laws -/
theorem awake18 : peloruslaw18_awake 200 = some (true, ()) := by kernel_rfl
theorem num_Of_k (k : Nat) (x : Int) : num_Of k x = num_Of 200 x := rfl
theorem law_Of_k (k : Nat) (x y : Int) : peloruslaw08_Of k x y = peloruslaw08_Of 200 x y := rfl
theorem awake_all (k : Nat) (hk : 200 ≤ k) : peloruslaw18_awake k = some (true, ()) := by
  obtain ⟨n0, e0, w0⟩ : ∃ n, num_Of 200 0 = some (n, ()) ∧ wfN n := ⟨zN, by kernel_rfl, wfN_zN⟩
  obtain ⟨n1, e1, w1⟩ : ∃ n, num_Of 200 1 = some (n, ()) ∧ wfN n := ⟨(1, false, 9223372036854775808, -63), by kernel_rfl, by unfold wfN; decide⟩
  obtain ⟨n2, e2, w2⟩ : ∃ n, num_Of 200 2 = some (n, ()) ∧ wfN n := ⟨(1, false, 9223372036854775808, -62), by kernel_rfl, by unfold wfN; decide⟩
  have q00 : peloruslaw08_Of 200 0 0 = some (mkI n0 n0, ()) := by simp only [peloruslaw08_Of, e0, Option.bind_some, iv_Make_eq]
  have q12 : peloruslaw08_Of 200 1 2 = some (mkI n1 n2, ()) := by simp only [peloruslaw08_Of, e1, e2, Option.bind_some, iv_Make_eq]
  have q02 : peloruslaw08_Of 200 0 2 = some (mkI n0 n2, ()) := by simp only [peloruslaw08_Of, e0, e2, Option.bind_some, iv_Make_eq]
  have R : ∀ k, 200 ≤ k → flow_Reach k n0 (mkI n0 n0) [n1, n2] [mkI n1 n2, mkI n0 n0] = some ((reachT n0 (mkI n0 n0) [n1, n2] [mkI n1 n2, mkI n0 n0]).1, (reachT n0 (mkI n0 n0) [n1, n2] [mkI n1 n2, mkI n0 n0]).2, ()) := fun k hk =>
    flow_Reach_eq k hk _ _ _ _ w0 (wfI_mkI w0 w0) (fun n hn => by
      simp only [List.mem_cons, List.not_mem_nil, or_false] at hn
      rcases hn with rfl | rfl
      · exact w1
      · exact w2) (fun x hx => by
      simp only [List.mem_cons, List.not_mem_nil, or_false] at hx
      rcases hx with rfl | rfl
      · exact wfI_mkI w1 w2
      · exact wfI_mkI w0 w0) (by simp)
  have h := awake18
  simp only [peloruslaw18_awake, e0, e1, e2, q00, q12, q02, Option.bind_some, R 200 (by decide)] at h
  simp only [peloruslaw18_awake, num_Of_k k, law_Of_k k, e0, e1, e2, q00, q12, q02, Option.bind_some, R k hk]
  exact h
/-! Plain answers -/
def plainL (b : List Iv) (x : Sl) : List Iv := ((b ++ [x.2.1]) ++ [x.2.2]) ++ [mkI x.1 x.1]
theorem plainL_len (b : List Iv) (x : Sl) : (plainL b x).length = b.length + 3 := by simp [plainL]
theorem lenadd {α : Type} (a : List α) (x : α) (h : a.length ≤ 2000) : (a.length + [x].length) * 72 ≤ 140737488355328 := by
  rw [List.length_singleton]; omega
theorem plain_step (k m : Nat) (r : List Iv) (t : Tb) (x : Sl) (i : Nat) (b : List Iv) (hi : i < t.2.2.length) (hx : t.2.2[i]? = some x) (hi2 : i ≤ 1000) (hb : b.length ≤ 1000) :
    peloruslaw18_Plain_l0 k (m + 1) ((r, (), (), (i : Int), ()), (t, b, ())) = peloruslaw18_Plain_l0 k m ((r, (), (), ((i + 1 : Nat) : Int), ()), (t, plainL b x, ())) := by
  have g1 := lenadd b x.2.1 (by omega)
  have g2 := lenadd (b ++ [x.2.1]) x.2.2 (by rw [len_snoc]; omega)
  have g3 := lenadd ((b ++ [x.2.1]) ++ [x.2.2]) (mkI x.1 x.1) (by rw [len_snoc, len_snoc]; omega)
  have e : (i : Int) < (t.2.2.length : Int) := by omega
  simp only [peloruslaw18_Plain_l0, cond_t e, if_pos (Int.natCast_nonneg i), Int.toNat_natCast, hx, Option.bind_some, if_pos g1, if_pos g2, iv_Point_eq, if_pos g3, wrap_succ (show i ≤ 1000000000 by omega)]
  rfl
theorem plain_loop0 (k : Nat) (r : List Iv) (t : Tb) (ht : t.2.2.length ≤ 20) : ∀ (j i m : Nat) (b : List Iv), i + j = t.2.2.length → j < m → b.length + 3 * j ≤ 200 →
    ∃ b', b'.length = b.length + 3 * j ∧ peloruslaw18_Plain_l0 k m ((r, (), (), (i : Int), ()), (t, b, ())) = some (Sum.inl ((r, (), ()), (b', ()))) := by
  intro j
  induction j with
  | zero =>
    intro i m b hi hm hb
    obtain ⟨m, rfl⟩ : ∃ q, m = q + 1 := ⟨m - 1, by omega⟩
    have e : ¬ (i : Int) < (t.2.2.length : Int) := by omega
    exact ⟨b, rfl, by simp only [peloruslaw18_Plain_l0, cond_f e]⟩
  | succ j IH =>
    intro i m b hi hm hb
    obtain ⟨m, rfl⟩ : ∃ q, m = q + 1 := ⟨m - 1, by omega⟩
    have hit : i < t.2.2.length := by omega
    have hl := plainL_len b (slG t.2.2 i)
    have q1 : i + 1 + j = t.2.2.length := by omega
    have q2 : j < m := by omega
    have q3 : (plainL b (slG t.2.2 i)).length + 3 * j ≤ 200 := by omega
    obtain ⟨b', h1, h2⟩ := IH (i + 1) m (plainL b (slG t.2.2 i)) q1 q2 q3
    refine ⟨b', by omega, ?_⟩
    rw [plain_step k m r t (slG t.2.2 i) i b hit (slG_eq hit) (by omega) (by omega)]
    exact h2
theorem plain_loop1 (k : Nat) : ∀ (s pre : List Iv) (m : Nat), s.length < m → pre.length + s.length ≤ 1000000 →
    peloruslaw18_Plain_l1 k m (((), (pre.length : Int), ()), (pre ++ s, ())) = some (Sum.inl ((false, ()), ())) ∨ peloruslaw18_Plain_l1 k m (((), (pre.length : Int), ()), (pre ++ s, ())) = some (Sum.inr (Sum.inl ((), ())))
  | [], pre, m + 1, hm, hl => by right; simp [peloruslaw18_Plain_l1]
  | x :: s, pre, m + 1, hm, hl => by
    simp only [List.length_cons] at hm hl
    have ih := plain_loop1 k s (pre ++ [x]) m (by omega) (by simp; omega)
    rw [mid_eq, len_snoc] at ih
    simp only [peloruslaw18_Plain_l1, cond_t (len_lt pre x s), if_pos (Int.natCast_nonneg pre.length), at_mid, Option.bind_some, wrap_succ (show pre.length ≤ 1000000000 by omega)]
    by_cases c1 : x.2.1.2.2.2 > 300
    · rw [cond_t c1]; exact .inl rfl
    · rw [cond_f c1]
      by_cases c2 : x.2.1.2.2.2 < -300
      · rw [cond_t c2]; exact .inl rfl
      · rw [cond_f c2]
        by_cases c3 : x.2.2.2.2.2 > 300
        · rw [cond_t c3]; exact .inl rfl
        · rw [cond_f c3]
          by_cases c4 : x.2.2.2.2.2 < -300
          · rw [cond_t c4]; exact .inl rfl
          · rw [cond_f c4]; exact ih
theorem plain_tot (k : Nat) (hk : 200 ≤ k) (t : Tb) (r : List Iv) : ∃ b : Bool, peloruslaw18_Plain k t r = some (b, ()) ∧ (b = true → t.2.2.length ≤ 20 ∧ r.length ≤ 20) := by
  simp only [peloruslaw18_Plain, iv_Point_eq, Option.bind_some]
  by_cases c1 : (t.2.2.length : Int) > 20
  · exact ⟨false, by rw [cond_t c1], fun h => by cases h⟩
  · by_cases c2 : (r.length : Int) > 20
    · exact ⟨false, by rw [cond_f c1, cond_t c2], fun h => by cases h⟩
    · rw [cond_f c1, cond_f c2]
      obtain ⟨b, h1, h2⟩ := plain_loop0 k r t (by omega) t.2.2.length 0 k [t.2.1, mkI t.1 t.1] (by omega) (by omega) (by simp only [List.length_cons, List.length_nil]; omega)
      rw [show ((0 : Nat) : Int) = 0 from rfl] at h2
      erw [h2]
      simp only [List.length_cons, List.length_nil] at h1
      have gl : (b.length + r.length) * 72 ≤ 140737488355328 := by omega
      have L := plain_loop1 k (b ++ r) [] k (by simp; omega) (by simp; omega)
      simp only [List.nil_append, List.length_nil] at L
      rw [show ((0 : Nat) : Int) = 0 from rfl] at L
      simp only [Option.bind_some, Sum.elim_inl, if_pos gl]
      rcases L with L | L
      · erw [L]; exact ⟨false, rfl, fun h => by cases h⟩
      · erw [L]; exact ⟨true, rfl, fun _ => ⟨by omega, by omega⟩⟩
theorem contract_len (t : Tb) (r : List Iv) : (contractT t r).1.2.2.length ≤ t.2.2.length := by
  unfold contractT
  split
  · simp only [fitT_len, bwds_len, fwds_len]; omega
  · exact Nat.zero_le _
theorem FlowContracts (t : Tb) (r : List Iv) (i : Int) (hw : wfT t) (hr : ∀ x ∈ r, wfI x) : ∃ k, peloruslaw18_FlowContracts k t r i = some (true, ()) := by
  obtain ⟨K1, h1⟩ := r18Contract_ev t r hw hr
  obtain ⟨K2, h2⟩ := r18Time_ev t i hw
  refine ⟨K1 + K2 + 300, ?_⟩
  obtain ⟨b, hb, h20⟩ := plain_tot (K1 + K2 + 300) (by omega) t r
  simp only [peloruslaw18_FlowContracts, awake_all _ (show 200 ≤ K1 + K2 + 300 by omega), Option.bind_some, hb, Bool.not_true, cond_false]
  cases b
  · rfl
  · obtain ⟨l1, l2⟩ := h20 rfl
    have lc := contract_len t r
    simp only [Bool.not_true, cond_false]
    rw [flow_Contract_eq _ (show 200 ≤ K1 + K2 + 300 by omega) t r hw hr, Option.bind_some, h1 _ (by omega), Option.bind_some]
    simp only
    rw [same_eq _ _ _ (by omega) (by omega), Option.bind_some]
    simp only [decide_true, cond_true]
    rw [beq_t rfl, cond_true, flow_TimeQ _ (by omega) t i hw, Option.bind_some, h2 _ (by omega), Option.bind_some]
    simp only [beqI, decide_true]
theorem ends_loop' (k : Nat) (x2 : List Nm) (r : List Iv) (S : Nm) (I : Iv) (A : Nm × Iv × Unit) : ∀ (s pre : List Nm) (m : Nat) (b : List Sl), x2 = pre ++ s → s.length < m → pre.length + s.length ≤ 1000 → b.length + s.length ≤ 100000 →
    ∃ b', b'.length = b.length + s.length ∧ peloruslaw18_FlowReaches_l0 k m ((x2, r, (), (), (), (pre.length : Int), ()), (S, I, A, b, ())) = some (Sum.inl ((x2, r, (), (), (), ()), (S, I, A, b', ())))
  | [], pre, m + 1, b, hx, hm, hl, hb => ⟨b, by simp, by
    have c : ¬ (pre.length : Int) < (x2.length : Int) := by rw [hx]; simp
    simp only [peloruslaw18_FlowReaches_l0, cond_f c]⟩
  | x :: s, pre, m + 1, b, hx, hm, hl, hb => by
    simp only [List.length_cons] at hm hl hb
    obtain ⟨b', h1, h2⟩ := ends_loop' k x2 r S I A s (pre ++ [x]) m (b ++ [(x, (false, zN, zN), (false, zN, zN))]) (by rw [hx, mid_eq]) (by omega) (by simp; omega) (by simp; omega)
    rw [len_snoc] at h2
    have c : (pre.length : Int) < (x2.length : Int) := by rw [hx]; exact len_lt _ _ _
    have g : x2[Int.toNat (pre.length : Int)]? = some x := by rw [hx]; exact at_mid _ _ _
    have gl : (b.length + [(x, ((false, zN, zN) : Iv), ((false, zN, zN) : Iv))].length) * 176 ≤ 140737488355328 := by simp; omega
    refine ⟨b', by rw [h1]; simp; omega, ?_⟩
    simp only [peloruslaw18_FlowReaches_l0, cond_t c, if_pos (Int.natCast_nonneg pre.length), g, Option.bind_some, wrap_succ (show pre.length ≤ 1000000000 by omega)]
    erw [if_pos gl]
    exact h2
theorem app_len' (T : Tb) (n : Nm) (a o : Iv) : (appT T n a o).1.2.2.length ≤ T.2.2.length + 1 := by
  unfold appT
  repeat' split
  all_goals simp
theorem rl_len : ∀ (s : List Nm) (e : Int) (T : Tb), (rl s e T).2.2.2.length ≤ T.2.2.length + s.length
  | [], e, T => by simp [rl]
  | n :: s, e, T => by
    rw [rl]
    split
    · have := rl_len s (appT T n allI allI).2 (appT T n allI allI).1
      have := app_len' T n allI allI
      simp only [List.length_cons]; omega
    · have := rl_len s e T
      simp only [List.length_cons]; omega
theorem new_len (n : Nm) (x : Iv) : (newT n x).1.2.2.length = 0 := by unfold newT; split <;> rfl
theorem reach_len (x0 : Nm) (x1 : Iv) (x2 : List Nm) (x3 : List Iv) : (reachT x0 x1 x2 x3).1.2.2.length ≤ x2.length := by
  unfold reachT
  split
  · split
    · have := contract_len (rl x2 (newT x0 x1).2 (newT x0 x1).1).2 x3
      have h := rl_len x2 (newT x0 x1).2 (newT x0 x1).1
      rw [new_len] at h
      omega
    · exact Nat.zero_le _
  · exact Nat.zero_le _
theorem okNs {l : List Nm} (h : okU (.list TNm) l) : ∀ n ∈ l, wfN n := fun n hn => okN (h.2 n hn)
theorem FlowReaches (x0 : Nm) (x1 : Iv) (x2 : List Nm) (x3 : List Iv) (h0 : wfN x0) (h1 : wfI x1) (h2 : ∀ n ∈ x2, wfN n) (h3 : ∀ x ∈ x3, wfI x) : ∃ k, peloruslaw18_FlowReaches k x0 x1 x2 x3 = some (true, ()) := by
  by_cases hl : (x2.length : Int) > 20
  · refine ⟨200, ?_⟩
    simp only [peloruslaw18_FlowReaches, awake_all _ (Nat.le_refl 200), Option.bind_some, Bool.not_true, cond_false, cond_t hl]
  · obtain ⟨K, hK⟩ := r18Reach_ev x0 x1 x2 x3 h0 h1 h2 h3 (by omega)
    refine ⟨K + 300, ?_⟩
    obtain ⟨b, hb1, hb2⟩ := ends_loop' (K + 300) x2 x3 x0 x1 (x0, (x1, ())) x2 [] (K + 300) [] rfl (by omega) (by simp; omega) (by simp; omega)
    simp only [List.length_nil] at hb2
    rw [show ((0 : Nat) : Int) = 0 from rfl] at hb2
    obtain ⟨p, hp, _⟩ := plain_tot (K + 300) (by omega) (x0, x1, b) x3
    simp only [peloruslaw18_FlowReaches, awake_all _ (show 200 ≤ K + 300 by omega), Option.bind_some, Bool.not_true, cond_false, cond_f hl]
    erw [hb2]
    simp only [Option.bind_some, Sum.elim_inl, hp]
    cases p
    · rfl
    · have lr := reach_len x0 x1 x2 x3
      simp only [Bool.not_true, cond_false]
      rw [flow_Reach_eq _ (show 200 ≤ K + 300 by omega) x0 x1 x2 x3 h0 h1 h2 h3 (by omega), Option.bind_some, hK _ (by omega), Option.bind_some]
      simp only
      rw [same_eq _ _ _ (by omega) (by omega), Option.bind_some]
      simp only [decide_true, cond_true]
      rw [beq_t rfl]
end Go.Proofs.YtmlnohiaagmgnaaGreat.Rf.Pl
