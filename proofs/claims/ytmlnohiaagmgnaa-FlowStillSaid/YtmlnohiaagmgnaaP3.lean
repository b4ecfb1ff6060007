/- Plain laws: what the functions answer, without the program's memory (part 3). No condition. -/
import Derived.Test.YtmlnohiaagmgnaaP2
import Derived.KernelRfl
import Derived.DataShut
import Derived.Laws.BitsLemmas
import Derived.Lib.EndianBits
namespace Go.Proofs.Ytmlnohiaagmgnaa.Rf.Pl
open Go Go.Proofs
set_option linter.unusedVariables false
set_option linter.unusedSimpArgs false
/-! ### sums, products and opposites of intervals; the time of a step -/
def wfN (n : Nm) : Prop := n.2.2.1 < 18446744073709551616
def wfI (x : Iv) : Prop := wfN x.2.1 ∧ wfN x.2.2
def wfS (s : Sl) : Prop := wfN s.1 ∧ wfI s.2.1 ∧ wfI s.2.2
def wfT (t : Tb) : Prop := wfN t.1 ∧ wfI t.2.1 ∧ ∀ s ∈ t.2.2, wfS s
theorem wfN_zN : wfN zN := by unfold wfN; decide
theorem wfN_inf (b : Bool) : wfN (inf b) := show (0 : Int) < 18446744073709551616 by decide
theorem wfN_fair {n : Nm} (h : wfN n) : wfN (fair n) := by unfold fair; split; exact h; exact wfN_zN
theorem wfN_mayP {n : Nm} (h : mayP n) : wfN n := by
  obtain ⟨a, b, c, d⟩ := n
  rcases h with ⟨_, _, h, _⟩ | ⟨_, _, h, _⟩ | ⟨_, h, _⟩ <;> simp only [wfN] at * <;> omega
theorem wfN_neg {n : Nm} (h : wfN n) : wfN (neg n) := by have := wfN_fair h; exact this
theorem wfI_none : wfI noneI := ⟨wfN_zN, wfN_zN⟩
theorem wfI_mkI {a b : Nm} (ha : wfN a) (hb : wfN b) : wfI (mkI a b) := by
  rcases mkI_cases a b with e | ⟨e, _⟩ <;> rw [e]
  · exact wfI_none
  · exact ⟨wfN_fair ha, wfN_fair hb⟩
theorem wfN_least {l : List Nm} (h : ∀ n ∈ l, wfN n) : wfN (least l) := by
  rcases least_mem l with e | ⟨n, hn, e⟩ <;> rw [e]
  · exact wfN_inf _
  · exact wfN_fair (h n hn)
theorem wfN_most {l : List Nm} (h : ∀ n ∈ l, wfN n) : wfN (most l) := by
  rcases most_mem l with e | ⟨n, hn, e⟩ <;> rw [e]
  · exact wfN_inf _
  · exact wfN_fair (h n hn)
theorem wfI_fair {x : Iv} (h : wfI x) : wfI (fairI x) := by unfold fairI; split; exact h; exact wfI_none
theorem wfI_two {a b : Iv} (ha : wfI a) (hb : wfI b) : wfI (two a b) := by
  unfold two
  split
  · exact wfI_none
  · refine wfI_mkI (wfN_most fun n hn => ?_) (wfN_least fun n hn => ?_)
    · simp only [List.mem_cons, List.not_mem_nil, or_false] at hn
      rcases hn with rfl | rfl
      · exact (wfI_fair ha).1
      · exact (wfI_fair hb).1
    · simp only [List.mem_cons, List.not_mem_nil, or_false] at hn
      rcases hn with rfl | rfl
      · exact (wfI_fair ha).2
      · exact (wfI_fair hb).2

def bad (x : Iv) : Bool := x.1 || !mayI x
def addI (x y : Iv) : Iv := if bad x || bad y then noneI else mkI (addv (fair x.2.1) (fair y.2.1) false) (addv (fair x.2.2) (fair y.2.2) true)
def negI (x : Iv) : Iv := if bad x then noneI else mkI (neg x.2.2) (neg x.2.1)
def subI (x y : Iv) : Iv := addI x (negI y)
def mulI (x y : Iv) : Iv := if bad x || bad y then noneI else
  mkI (least [mulv (fair x.2.1) (fair y.2.1) false, mulv (fair x.2.1) (fair y.2.2) false, mulv (fair x.2.2) (fair y.2.1) false, mulv (fair x.2.2) (fair y.2.2) false])
    (most [mulv (fair x.2.1) (fair y.2.1) true, mulv (fair x.2.1) (fair y.2.2) true, mulv (fair x.2.2) (fair y.2.1) true, mulv (fair x.2.2) (fair y.2.2) true])
theorem addP {a b : Nm} (ha : wfN a) (hb : wfN b) (up : Bool) : mayP (addv (fair a) (fair b) up) := addv_may up (fair_wf ha) (fair_wf hb)
theorem mulP {a b : Nm} (ha : wfN a) (hb : wfN b) (up : Bool) : mayP (mulv (fair a) (fair b) up) := mulv_may up (fair_wf ha) (fair_wf hb)
theorem wfI_addI {x y : Iv} (hx : wfI x) (hy : wfI y) : wfI (addI x y) := by
  unfold addI
  split
  · exact wfI_none
  · exact wfI_mkI (wfN_mayP (addP hx.1 hy.1 _)) (wfN_mayP (addP hx.2 hy.2 _))
theorem wfI_negI {x : Iv} (hx : wfI x) : wfI (negI x) := by
  unfold negI
  split
  · exact wfI_none
  · exact wfI_mkI (wfN_neg hx.2) (wfN_neg hx.1)
theorem wfI_subI {x y : Iv} (hx : wfI x) (hy : wfI y) : wfI (subI x y) := wfI_addI hx (wfI_negI hy)
theorem wfI_mulI {x y : Iv} (hx : wfI x) (hy : wfI y) : wfI (mulI x y) := by
  unfold mulI
  split
  · exact wfI_none
  · refine wfI_mkI (wfN_least fun n hn => ?_) (wfN_most fun n hn => ?_)
    all_goals
      simp only [List.mem_cons, List.not_mem_nil, or_false] at hn
      rcases hn with rfl | rfl | rfl | rfl
      · exact wfN_mayP (mulP hx.1 hy.1 _)
      · exact wfN_mayP (mulP hx.1 hy.2 _)
      · exact wfN_mayP (mulP hx.2 hy.1 _)
      · exact wfN_mayP (mulP hx.2 hy.2 _)
theorem none_loop (k : Nat) : ∀ (s pre : List Iv) (m : Nat), s.length < m → pre.length + s.length ≤ 1000000 →
    ivop_none_l0 k m ((pre ++ s, ((pre ++ s).length : Int), (pre.length : Int), ()), ()) = some (bif s.any bad then Sum.inl ((true, ()), ()) else Sum.inr (Sum.inl ((), ())))
  | [], pre, m + 1, hm, hl => by simp [ivop_none_l0]
  | x :: s, pre, m + 1, hm, hl => by
    simp only [List.length_cons] at hm hl
    have ih := none_loop k s (pre ++ [x]) m (by omega) (by simp; omega)
    rw [mid_eq, len_snoc] at ih
    simp only [ivop_none_l0, cond_t (len_lt pre x s), if_pos (Int.natCast_nonneg pre.length), at_mid, Option.bind_some, iv_May_eq, wrap_succ (show pre.length ≤ 1000000000 by omega)]
    rw [ih]
    simp only [List.any_cons, bad]
    cases x.1 <;> cases mayI x <;> simp
theorem ivop_none_eq (k : Nat) (l : List Iv) (h : l.length < k) (h' : l.length ≤ 1000000) : ivop_none k l = some (l.any bad, ()) := by
  have := none_loop k l [] k h (by simpa using h')
  simp only [List.nil_append, List.length_nil] at this
  simp only [ivop_none]
  rw [show ((0 : Nat) : Int) = 0 from rfl] at this
  rw [this]
  cases l.any bad <;> rfl
theorem ivop_Add_eq (k : Nat) (hk : 100 ≤ k) {x y : Iv} (hx : wfI x) (hy : wfI y) : ivop_Add k [x, y] = some (addI x y, ()) := by
  simp only [ivop_Add, ivop_none_eq k [x, y] (by simp; omega) (by simp), Option.bind_some, iv_None_eq, addI]
  simp only [List.any_cons, List.any_nil, Bool.or_false]
  cases hb : (bad x || bad y)
  · rw [cond_false]
    obtain ⟨m, rfl⟩ : ∃ m, k = m + 1 + 1 + 1 := ⟨k - 3, by omega⟩
    have c0 : (0 : Int) < (([x, y] : List Iv).length : Int) := by simp
    have c1 : (1 : Int) < (([x, y] : List Iv).length : Int) := by simp
    have c2 : ¬ (2 : Int) < (([x, y] : List Iv).length : Int) := by simp
    have w1 : IntKind.i64.wrap (0 + 1) = 1 := by decide
    have w2 : IntKind.i64.wrap (1 + 1) = 2 := by decide
    have g0 : ([x, y] : List Iv)[Int.toNat 0]? = some x := rfl
    have g1 : ([x, y] : List Iv)[Int.toNat 1]? = some y := rfl
    have z0 : (0 : Int) ≤ 0 := by decide
    have z1 : (0 : Int) ≤ 1 := by decide
    have step : ∀ Z, ivop_Add_l0 (m + 1 + 1 + 1) (m + 1 + 1 + 1) (((), (), (), [x, y], (([x, y] : List Iv).length : Int), 0, ()), Z) = some (Sum.inl (((), (), (), ()), (Z.1, addv (fair x.2.1) (fair y.2.1) false, addv (fair x.2.2) (fair y.2.2) true, ()))) := by
      intro Z
      rw [ivop_Add_l0]
      simp only [cond_t c0, if_pos z0, g0, Option.bind_some, i00, cond_true, w1]
      rw [ivop_Add_l0]
      simp only [cond_t c1, if_pos z1, g1, Option.bind_some, i10, cond_false, w2, arith_Add_eq _ _ _ _ hx.1 hy.1, arith_Add_eq _ _ _ _ hx.2 hy.2]
      rw [ivop_Add_l0]
      simp only [cond_f c2]
    rw [step]
    simp only [Option.bind_some, Sum.elim_inl, iv_Make_eq]
    simp
  · rw [cond_true]; simp
theorem ivop_Neg_eq (k : Nat) (hk : 100 ≤ k) (x : Iv) : ivop_Neg k x = some (negI x, ()) := by
  simp only [ivop_Neg, ivop_none_eq k [x] (by simp; omega) (by simp), Option.bind_some, iv_None_eq, negI, num_Neg_eq, iv_Make_eq]
  simp only [List.any_cons, List.any_nil, Bool.or_false]
  cases bad x <;> simp
theorem ivop_Sub_eq (k : Nat) (hk : 100 ≤ k) {x y : Iv} (hx : wfI x) (hy : wfI y) : ivop_Sub k x y = some (subI x y, ()) := by
  simp only [ivop_Sub, ivop_Neg_eq k hk, Option.bind_some, ivop_Add_eq k hk hx (wfI_negI hy), subI]
theorem ivop_Mul_eq (k : Nat) (hk : 100 ≤ k) {x y : Iv} (hx : wfI x) (hy : wfI y) : ivop_Mul k x y = some (mulI x y, ()) := by
  simp only [ivop_Mul, ivop_none_eq k [x, y] (by simp; omega) (by simp), Option.bind_some, iv_None_eq, mulI, arith_Mul_eq _ _ _ _ hx.1 hy.1, arith_Mul_eq _ _ _ _ hx.1 hy.2, arith_Mul_eq _ _ _ _ hx.2 hy.1, arith_Mul_eq _ _ _ _ hx.2 hy.2,
    num_Least_eq k [_, _, _, _] (by simp; omega) (by simp), num_Most_eq k [_, _, _, _] (by simp; omega) (by simp), iv_Make_eq]
  simp only [List.any_cons, List.any_nil, Bool.or_false]
  cases (bad x || bad y) <;> simp
theorem arith_Sub_eq (k : Nat) {a b : Nm} (ha : wfN a) (hb : wfN b) (up : Bool) : arith_Sub k a b up = some (addv (fair a) (neg b) up, ()) := by
  simp only [arith_Sub, num_Neg_eq, Option.bind_some, arith_Add_eq k a (neg b) up ha (wfN_neg hb), fair_may (may_neg b)]
/-! the steps of a tube, by number -/
def slG (l : List Sl) (i : Nat) : Sl := l[i]?.getD (zN, noneI, noneI)
def timeN (t : Tb) : Nat → Nm
  | 0 => t.1
  | i + 1 => (slG t.2.2 i).1
def gtN (t : Tb) : Nat → Iv
  | 0 => t.2.1
  | i + 1 => (slG t.2.2 i).2.2
def dtI (t : Tb) (i : Nat) : Iv := mkI (addv (fair (timeN t (i + 1))) (neg (timeN t i)) false) (addv (fair (timeN t (i + 1))) (neg (timeN t i)) true)
theorem slG_eq {l : List Sl} {i : Nat} (h : i < l.length) : l[i]? = some (slG l i) := by unfold slG; rw [List.getElem?_eq_getElem h]; rfl
theorem slG_mem {l : List Sl} {i : Nat} (h : i < l.length) : slG l i ∈ l := List.mem_of_getElem? (slG_eq h)
theorem wfN_time {t : Tb} (h : wfT t) {i : Nat} (hi : i ≤ t.2.2.length) : wfN (timeN t i) := by
  cases i with
  | zero => exact h.1
  | succ i => exact (h.2.2 _ (slG_mem hi)).1
theorem wfI_gt {t : Tb} (h : wfT t) {i : Nat} (hi : i ≤ t.2.2.length) : wfI (gtN t i) := by
  cases i with
  | zero => exact h.2.1
  | succ i => exact (h.2.2 _ (slG_mem hi)).2.2
theorem flow_when_eq (k : Nat) (t : Tb) (i : Nat) (hi : i ≤ t.2.2.length) (hl : i ≤ 1000) : flow_when k t (i : Int) = some (timeN t i, ()) := by
  cases i with
  | zero => rfl
  | succ i =>
    simp only [flow_when]
    rw [beq_f (by omega), cond_false, wrap_pred (by omega), if_pos (Int.natCast_nonneg i), Int.toNat_natCast, slG_eq hi]
    rfl
theorem flow_Time_eq (k : Nat) (hk : 100 ≤ k) (t : Tb) (i : Nat) (hm : mayT t = true) (hw : wfT t) (hi : i < t.2.2.length) : flow_Time k t (i : Int) = some (dtI t i, ()) := by
  have hl := mayT_len hm
  have c1 : ¬ (i : Int) < 0 := by omega
  have c2 : ¬ (i : Int) ≥ (t.2.2.length : Int) := by omega
  simp only [flow_Time, tube_May_eq k hk, hm, Option.bind_some, Bool.not_true, cond_false, cond_f c1, cond_f c2, wrap_succ (show i ≤ 1000000000 by omega),
    flow_when_eq k t i (by omega) (by omega), flow_when_eq k t (i + 1) (by omega) (by omega), arith_Sub_eq k (wfN_time hw (show i + 1 ≤ _ by omega)) (wfN_time hw (show i ≤ _ by omega)), iv_Make_eq, dtI]
theorem wfI_dt {t : Tb} (hw : wfT t) {i : Nat} (hi : i < t.2.2.length) : wfI (dtI t i) := by
  have h1 := wfN_time hw (show i + 1 ≤ t.2.2.length by omega)
  have h2 := wfN_time hw (show i ≤ t.2.2.length by omega)
  have p : ∀ up, mayP (addv (fair (timeN t (i + 1))) (neg (timeN t i)) up) := fun up => addv_may up (fair_wf h1) (by have := fair_wf (wfN_neg h2); rwa [fair_may (may_neg _)] at this)
  exact wfI_mkI (wfN_mayP (p _)) (wfN_mayP (p _))
/-! ### the passes of Contract -/
def rtG (r : List Iv) (i : Nat) : Iv := r[i]?.getD noneI
theorem rtG_eq {r : List Iv} {i : Nat} (h : i < r.length) : r[i]? = some (rtG r i) := by unfold rtG; rw [List.getElem?_eq_getElem h]; rfl
theorem rtG_mem {r : List Iv} {i : Nat} (h : i < r.length) : rtG r i ∈ r := List.mem_of_getElem? (rtG_eq h)
def runA (r : List Iv) (t : Tb) (i : Nat) : Iv := mulI (rtG r i) (dtI t i)
def runB (r : List Iv) (t : Tb) (i : Nat) : Iv := mulI (rtG r i) (mkI zN (dtI t i).2.2)
def fwd (r : List Iv) (t : Tb) (i : Nat) : Tb :=
  (t.1, t.2.1, t.2.2.set i ((slG t.2.2 i).1, two (slG t.2.2 i).2.1 (addI (gtN t i) (runB r t i)), two (slG t.2.2 i).2.2 (addI (gtN t i) (runA r t i))))
def setG (t : Tb) (x : Iv) : Nat → Tb
  | 0 => (t.1, x, t.2.2)
  | i + 1 => (t.1, t.2.1, t.2.2.set i ((slG t.2.2 i).1, (slG t.2.2 i).2.1, x))
def bwd (r : List Iv) (t : Tb) (i : Nat) : Tb :=
  let t' := setG t (two (gtN t i) (subI (gtN t (i + 1)) (runA r t i))) i
  (t'.1, t'.2.1, t'.2.2.set i ((slG t.2.2 i).1, two (slG t.2.2 i).2.1 (subI (gtN t (i + 1)) (runB r t i)), (slG t.2.2 i).2.2))
theorem fwd_len (r : List Iv) (t : Tb) (i : Nat) : (fwd r t i).2.2.length = t.2.2.length := by simp [fwd]
theorem bwd_len (r : List Iv) (t : Tb) (i : Nat) : (bwd r t i).2.2.length = t.2.2.length := by cases i <;> simp [bwd, setG]
/-- The first pass, from a step on; the second one, down from a step. -/
def fwds (r : List Iv) : Nat → Nat → Tb → Tb
  | 0, _, t => t
  | j + 1, i, t => fwds r j (i + 1) (fwd r t i)
def bwds (r : List Iv) : Nat → Tb → Tb
  | 0, t => t
  | j + 1, t => bwds r j (bwd r t j)
theorem fwds_len (r : List Iv) : ∀ j i t, (fwds r j i t).2.2.length = t.2.2.length
  | 0, _, _ => rfl
  | j + 1, i, t => by rw [fwds, fwds_len r j, fwd_len]
theorem bwds_len (r : List Iv) : ∀ j t, (bwds r j t).2.2.length = t.2.2.length
  | 0, _ => rfl
  | j + 1, t => by rw [bwds, bwds_len r j, bwd_len]

/-! what the steps keep -/
theorem slG_set_self {l : List Sl} {i : Nat} (h : i < l.length) (s : Sl) : slG (l.set i s) i = s := by unfold slG; rw [List.getElem?_set_self h]; rfl
theorem slG_set_ne {l : List Sl} {i j : Nat} (h : i ≠ j) (s : Sl) : slG (l.set i s) j = slG l j := by unfold slG; rw [List.getElem?_set_ne h]
theorem ends_set' {l : List Sl} {i : Nat} {s : Sl} (h : s.1 = (slG l i).1) : ends (l.set i s) = ends l := by
  apply List.ext_getElem?
  intro n
  simp only [ends, List.getElem?_map, List.getElem?_set]
  split
  · rename_i e
    subst e
    split
    · rename_i hl
      rw [slG_eq hl]; simp [h]
    · rename_i hl
      rw [List.getElem?_eq_none (by omega)]
  · rfl
theorem okS_set' : ∀ {l : List Sl} {w : Nm} {i : Nat} {s : Sl}, okS w l = true → s.1 = (slG l i).1 → mayI s.2.1 = true → mayI s.2.2 = true → okS w (l.set i s) = true
  | [], _, _, _, _, _, _, _ => by simp [okS]
  | x :: l, w, 0, s, h, h1, h2, h3 => by
    have h1 : s.1 = x.1 := h1
    simp only [List.set_cons_zero, okS, Bool.and_eq_true] at h ⊢
    rw [h1]
    exact ⟨⟨⟨h.1.1.1, h2⟩, h3⟩, h.2⟩
  | x :: l, w, i + 1, s, h, h1, h2, h3 => by
    simp only [List.set_cons_succ, okS, Bool.and_eq_true] at h ⊢
    exact ⟨h.1, okS_set' h.2 h1 h2 h3⟩
theorem okS_mem {l : List Sl} : ∀ {w : Nm}, okS w l = true → ∀ s ∈ l, mayI s.2.1 = true ∧ mayI s.2.2 = true := by
  induction l with
  | nil => intro w h s hs; cases hs
  | cons x l ih =>
    intro w h s hs
    simp only [okS, Bool.and_eq_true] at h
    rcases List.mem_cons.1 hs with rfl | hs
    · exact ⟨h.1.1.2, h.1.2⟩
    · exact ih h.2 s hs
theorem mayT_iff {t : Tb} : mayT t = true ↔ finite t.1 = true ∧ mayI t.2.1 = true ∧ t.2.2.length ≤ 64 ∧ okS t.1 t.2.2 = true := by
  simp only [mayT, Bool.and_eq_true, decide_eq_true_eq, and_assoc]
theorem mayT_set {t : Tb} {i : Nat} {s : Sl} (h : mayT t = true) (h1 : s.1 = (slG t.2.2 i).1) (h2 : mayI s.2.1 = true) (h3 : mayI s.2.2 = true) : mayT (t.1, t.2.1, t.2.2.set i s) = true := by
  rw [mayT_iff] at *
  exact ⟨h.1, h.2.1, by simpa using h.2.2.1, okS_set' h.2.2.2 h1 h2 h3⟩
theorem mayT_sl {t : Tb} (h : mayT t = true) {i : Nat} (hi : i < t.2.2.length) : mayI (slG t.2.2 i).2.1 = true ∧ mayI (slG t.2.2 i).2.2 = true := okS_mem (mayT_iff.1 h).2.2.2 _ (slG_mem hi)
theorem mayT_fwd {r : List Iv} {t : Tb} {i : Nat} (h : mayT t = true) : mayT (fwd r t i) = true := mayT_set h rfl (mayI_two _ _) (mayI_two _ _)
theorem mayT_setG {t : Tb} {x : Iv} {i : Nat} (h : mayT t = true) (hx : mayI x = true) (hi : i ≤ t.2.2.length) : mayT (setG t x i) = true := by
  cases i with
  | zero =>
    rw [mayT_iff] at *
    exact ⟨h.1, hx, h.2.2⟩
  | succ i => exact mayT_set h rfl (mayT_sl h hi).1 hx
theorem slG_setG {t : Tb} {x : Iv} (i : Nat) : slG (setG t x i).2.2 i = slG t.2.2 i := by
  cases i with
  | zero => rfl
  | succ i => exact slG_set_ne (by omega) _
theorem mayT_bwd {r : List Iv} {t : Tb} {i : Nat} (h : mayT t = true) (hi : i < t.2.2.length) : mayT (bwd r t i) = true := by
  refine mayT_set (t := setG t _ i) (mayT_setG h (mayI_two _ _) (by omega)) ?_ (mayI_two _ _) (mayT_sl h hi).2
  rw [slG_setG]
theorem wfT_set {t : Tb} {i : Nat} {s : Sl} (h : wfT t) (hs : wfS s) : wfT (t.1, t.2.1, t.2.2.set i s) := by
  refine ⟨h.1, h.2.1, fun x hx => ?_⟩
  rcases List.mem_or_eq_of_mem_set hx with hx | rfl
  · exact h.2.2 x hx
  · exact hs
theorem wfI_runA {r : List Iv} {t : Tb} {i : Nat} (hr : ∀ x ∈ r, wfI x) (hi : i < r.length) (h : wfT t) (hi' : i < t.2.2.length) : wfI (runA r t i) := wfI_mulI (hr _ (rtG_mem hi)) (wfI_dt h hi')
theorem wfI_runB {r : List Iv} {t : Tb} {i : Nat} (hr : ∀ x ∈ r, wfI x) (hi : i < r.length) (h : wfT t) (hi' : i < t.2.2.length) : wfI (runB r t i) := wfI_mulI (hr _ (rtG_mem hi)) (wfI_mkI wfN_zN (wfI_dt h hi').2)
theorem wfT_fwd {r : List Iv} {t : Tb} {i : Nat} (hr : ∀ x ∈ r, wfI x) (hi : i < r.length) (h : wfT t) (hi' : i < t.2.2.length) : wfT (fwd r t i) := by
  have hs := h.2.2 _ (slG_mem hi')
  have hg := wfI_gt h (show i ≤ t.2.2.length by omega)
  exact wfT_set h ⟨hs.1, wfI_two hs.2.1 (wfI_addI hg (wfI_runB hr hi h hi')), wfI_two hs.2.2 (wfI_addI hg (wfI_runA hr hi h hi'))⟩
theorem wfT_setG {t : Tb} {x : Iv} {i : Nat} (h : wfT t) (hx : wfI x) (hi : i ≤ t.2.2.length) : wfT (setG t x i) := by
  cases i with
  | zero => exact ⟨h.1, hx, h.2.2⟩
  | succ i =>
    have hs := h.2.2 _ (slG_mem (show i < t.2.2.length from hi))
    exact wfT_set h ⟨hs.1, hs.2.1, hx⟩
theorem wfT_bwd {r : List Iv} {t : Tb} {i : Nat} (hr : ∀ x ∈ r, wfI x) (hi : i < r.length) (h : wfT t) (hi' : i < t.2.2.length) : wfT (bwd r t i) := by
  have hs := h.2.2 _ (slG_mem hi')
  have hg := wfI_gt h (show i ≤ t.2.2.length by omega)
  have hg2 : wfI (gtN t (i + 1)) := hs.2.2
  exact wfT_set (t := setG t _ i) (wfT_setG h (wfI_two hg (wfI_subI hg2 (wfI_runA hr hi h hi'))) (by omega)) ⟨hs.1, wfI_two hs.2.1 (wfI_subI hg2 (wfI_runB hr hi h hi')), hs.2.2⟩
/-! the code's passes -/
theorem set_self {l : List Sl} {i : Nat} (h : i < l.length) (s : Sl) : (l.set i s)[i]? = some s := List.getElem?_set_self h
theorem fwd_loop (k : Nat) (hk : 200 ≤ k) (r : List Iv) (hr : ∀ x ∈ r, wfI x) (D : Nm × Iv × List Sl) : ∀ (j m i : Nat) (t : Tb) (n : Nat), j < m → i + j = n → n = t.2.2.length → n = r.length → mayT t = true → wfT t →
    flow_Contract_l4 k m ((r, (), (), (), (), (), (), (n : Int), (i : Int), ()), ((t.1, (t.2.1, ())), D, t.2.2, (), r, true, ())) = some (Sum.inl ((r, (), (), ()), (((fwds r j i t).1, ((fwds r j i t).2.1, ())), D, (fwds r j i t).2.2, ()))) := by
  intro j
  induction j with
  | zero =>
    intro m i t n hm hi hn hr2 ht hw
    cases m with
    | zero => omega
    | succ m =>
      have : ¬ (i : Int) < (n : Int) := by omega
      simp only [flow_Contract_l4, cond_f this, fwds]
  | succ j ih =>
    intro m i t n hm hi hn hr2 ht hw
    cases m with
    | zero => omega
    | succ m =>
      have hlt : (i : Int) < (n : Int) := by omega
      have hit : i < t.2.2.length := by omega
      have hir : i < r.length := by omega
      have h64 := mayT_len ht
      have next := ih m (i + 1) (fwd r t i) n (by omega) (by omega) (by rw [fwd_len]; exact hn) hr2 (mayT_fwd ht) (wfT_fwd hr hir hw hit)
      have hT := flow_Time_eq k (by omega) t i ht hw hit
      have hg := wfI_gt hw (show i ≤ t.2.2.length by omega)
      have hA := ivop_Mul_eq k (by omega) (hr _ (rtG_mem hir)) (wfI_dt hw hit)
      have hB := ivop_Mul_eq k (by omega) (hr _ (rtG_mem hir)) (wfI_mkI wfN_zN (wfI_dt hw hit).2)
      have sA := ivop_Add_eq k (by omega) hg (wfI_runA hr hir hw hit)
      have sB := ivop_Add_eq k (by omega) hg (wfI_runB hr hir hw hit)
      rw [fwds, ← next]
      obtain ⟨st, inn, l⟩ := t
      simp only at hit hT hA hB hn h64
      simp only [flow_Contract_l4, cond_t hlt, Bool.not_true, cond_false, hT, Option.bind_some, if_pos (Int.natCast_nonneg i), Int.toNat_natCast, slG_eq hit, rtG_eq hir, hA, hB, iv_Make_eq, set_self hit, List.set_set, wrap_succ (show i ≤ 1000000000 by omega)]
      cases i with
      | zero =>
        have c : ¬ ((0 : Nat) : Int) > 0 := by decide
        simp only [cond_f c]
        erw [sA]
        simp only [Option.bind_some, iv_Meet2 k _ _ (show 3 ≤ k by omega)]
        erw [sB]
        simp only [Option.bind_some, iv_Meet2 k _ _ (show 3 ≤ k by omega)]
        rfl
      | succ i =>
        have c : ((i + 1 : Nat) : Int) > 0 := by omega
        have hi1 : i < l.length := by omega
        have e : ∀ s : Sl, (l.set (i + 1) s)[i]? = some (slG l i) := fun s => by rw [List.getElem?_set_ne (by omega)]; exact slG_eq hi1
        simp only [cond_t c, wrap_pred (show i ≤ 1000000000 by omega), if_pos (Int.natCast_nonneg i), Int.toNat_natCast, slG_eq hi1, Option.bind_some, e]
        erw [sA]
        simp only [Option.bind_some, iv_Meet2 k _ _ (show 3 ≤ k by omega), set_self hit, e]
        erw [sB]
        simp only [Option.bind_some, iv_Meet2 k _ _ (show 3 ≤ k by omega), List.set_set]
        rfl
theorem bwd_loop (k : Nat) (hk : 200 ≤ k) (r : List Iv) (hr : ∀ x ∈ r, wfI x) (D : Nm × Iv × List Sl) : ∀ (j m i : Nat) (t : Tb) (n : Nat), j < m → i + j = n → n = t.2.2.length → n = r.length → mayT t = true → wfT t →
    flow_Contract_l5 k m (((), (), (), (), (), (), (n : Int), (i : Int), ()), ((t.1, (t.2.1, ())), D, t.2.2, (), r, false, ())) = some (Sum.inl (((), (), ()), (((bwds r j t).1, ((bwds r j t).2.1, ())), D, (bwds r j t).2.2, ()))) := by
  intro j
  induction j with
  | zero =>
    intro m i t n hm hi hn hr2 ht hw
    cases m with
    | zero => omega
    | succ m =>
      have : ¬ (i : Int) < (n : Int) := by omega
      simp only [flow_Contract_l5, cond_f this, bwds]
  | succ j ih =>
    intro m i t n hm hi hn hr2 ht hw
    cases m with
    | zero => omega
    | succ m =>
      have hlt : (i : Int) < (n : Int) := by omega
      have hit : j < t.2.2.length := by omega
      have hir : j < r.length := by omega
      have h64 := mayT_len ht
      have next := ih m (i + 1) (bwd r t j) n (by omega) (by omega) (by rw [bwd_len]; exact hn) hr2 (mayT_bwd ht hit) (wfT_bwd hr hir hw hit)
      have hT := flow_Time_eq k (by omega) t j ht hw hit
      have hg : wfI (slG t.2.2 j).2.2 := (hw.2.2 _ (slG_mem hit)).2.2
      have hA := ivop_Mul_eq k (by omega) (hr _ (rtG_mem hir)) (wfI_dt hw hit)
      have hB := ivop_Mul_eq k (by omega) (hr _ (rtG_mem hir)) (wfI_mkI wfN_zN (wfI_dt hw hit).2)
      have sA := ivop_Sub_eq k (by omega) hg (wfI_runA hr hir hw hit)
      have sB := ivop_Sub_eq k (by omega) hg (wfI_runB hr hir hw hit)
      rw [bwds, ← next]
      obtain ⟨st, inn, l⟩ := t
      simp only at hit hT hA hB hn h64 sA sB
      have ix : IntKind.i64.wrap (IntKind.i64.wrap ((l.length : Int) - 1) - (i : Int)) = (j : Int) := by
        rw [wrap_small (x := (l.length : Int) - 1) (by omega) (by omega), wrap_small (by omega) (by omega)]; omega
      simp only [flow_Contract_l5, cond_t hlt, Bool.not_false, cond_true, ix, hT, Option.bind_some, if_pos (Int.natCast_nonneg j), Int.toNat_natCast, slG_eq hit, rtG_eq hir, hA, hB, iv_Make_eq, List.set_set, wrap_succ (show i ≤ 1000000000 by omega)]
      cases j with
      | zero =>
        have c : ¬ ((0 : Nat) : Int) > 0 := by decide
        simp only [cond_f c]
        erw [sA]
        simp only [Option.bind_some, iv_Meet2 k _ _ (show 3 ≤ k by omega)]
        erw [sB]
        simp only [Option.bind_some, iv_Meet2 k _ _ (show 3 ≤ k by omega)]
        rfl
      | succ j =>
        have c : ((j + 1 : Nat) : Int) > 0 := by omega
        have hi1 : j < l.length := by omega
        have e : ∀ s : Sl, (l.set j s)[j + 1]? = some (slG l (j + 1)) := fun s => by rw [List.getElem?_set_ne (by omega)]; exact slG_eq hit
        simp only [cond_t c, wrap_pred (show j ≤ 1000000000 by omega), if_pos (Int.natCast_nonneg j), Int.toNat_natCast, slG_eq hi1, Option.bind_some]
        erw [sA]
        simp only [Option.bind_some, iv_Meet2 k _ _ (show 3 ≤ k by omega), e]
        erw [sB]
        simp only [Option.bind_some, iv_Meet2 k _ _ (show 3 ≤ k by omega)]
        rfl
/-! ### the loops of Contract before its passes -/
theorem cfit_loop (k : Nat) (hk : 3 ≤ k) (r : List Iv) (T : Tb) (D2 D : Nm × Iv × List Sl) (st : Nm) (inn : Iv) : ∀ (m : Nat) (s pre : List Sl) (g : Nm × Iv) (I : Nm × Iv × Unit) (A : List Sl), s.length + 1 < m → pre.length + s.length ≤ 1000000 →
    (A = match pre.getLast? with | none => s | some p => fitN pre.dropLast (some p) ++ p :: s) → ∃ g', 
    flow_Contract_l2 k m ((r, (), (), (), (), (), (((pre ++ s).length + 1 : Nat) : Int), (pre.length : Int), (), (), ()), (T, D2, g, D, I, A, (st, inn, pre ++ s), ())) =
      some (Sum.inl ((r, (), (), (), (), ()), (T, D2, D, ((I.1, (if pre = [] then nx g.2 s else I.2.1), ()), g', ())))) ∧ g' = fitN (pre ++ s) none := by
  intro m
  induction m with
  | zero => intro s pre g I A hm; omega
  | succ m IH =>
    intro s pre g I A hm hl hA
    have hlt : (pre.length : Int) < (((pre ++ s).length + 1 : Nat) : Int) := by simp; omega
    have next : ∀ (g2' : Nm × Iv) (I2 : Nm × Iv × Unit) (A2 : List Sl), (s = [] → A2 = fitN pre none) → (∀ x q, s = x :: q → A2 = fitN pre (some x) ++ x :: q) → ∃ g', flow_Contract_l2 k m ((r, (), (), (), (), (), (((pre ++ s).length + 1 : Nat) : Int), ((pre.length + 1 : Nat) : Int), (), (), ()), (T, D2, g2', D, I2, A2, (st, inn, pre ++ s), ())) =
      some (Sum.inl ((r, (), (), (), (), ()), (T, D2, D, ((I2.1, I2.2.1, ()), g', ())))) ∧ g' = fitN (pre ++ s) none := by
      intro g2' I2 A2 h1 h2
      cases s with
      | nil =>
        cases m with
        | zero => simp at hm
        | succ m =>
          have h3 : ¬ ((pre.length + 1 : Nat) : Int) < (((pre ++ []).length + 1 : Nat) : Int) := by simp
          refine ⟨A2, ?_, by simpa using h1 rfl⟩
          simp only [flow_Contract_l2]
          rw [cond_f h3]
      | cons y q =>
        simp only [List.length_cons] at hm hl
        obtain ⟨g', ih, e⟩ := IH q (pre ++ [y]) g2' I2 A2 (by omega) (by simp; omega) (by simpa using h2 y q rfl)
        rw [mid_eq, len_snoc] at ih
        rw [mid_eq] at e
        exact ⟨g', by rw [ih]; simp, e⟩
    simp only [flow_Contract_l2]
    rw [cond_t hlt, wrap_succ (show pre.length ≤ 1000000000 by omega)]
    rcases List.eq_nil_or_concat pre with rfl | ⟨pre, p, rfl⟩
    · simp only [List.getLast?_nil] at hA
      subst hA
      have h0 : ¬ (([] : List Sl).length : Int) > 0 := by simp
      have h00 : ((([] : List Sl).length : Int) == 0) = true := rfl
      simp only [cond_f h0, h00, cond_true, if_true]
      cases A with
      | nil =>
        have h1 : ¬ (([] : List Sl).length : Int) < (([] ++ [] : List Sl).length : Int) := by simp
        simp only [cond_f h1, nx]
        exact next _ (I.1, g.2, ()) _ (fun _ => rfl) (fun _ _ h => by cases h)
      | cons y q =>
        have h1 : (([] : List Sl).length : Int) < (([] ++ y :: q : List Sl).length : Int) := by simp
        rw [cond_t h1, if_pos (Int.natCast_nonneg _), at_mid]
        simp only [Option.bind_some, nx, iv_Meet2 k _ _ hk]
        exact next _ (I.1, two g.2 y.2.1, ()) _ (fun h => by cases h) (fun x q h => by cases h; rfl)
    · simp only [List.concat_eq_append] at *
      rw [len_snoc] at hl
      simp only [List.getLast?_append, List.getLast?_singleton, Option.some_or, List.dropLast_concat] at hA
      subst hA
      have h0 : (((pre ++ [p]).length : Nat) : Int) > 0 := by simp
      have h00 : (((pre ++ [p]).length : Int) == 0) = false := by rw [len_snoc]; exact beq_f (by omega)
      have hne : ¬ (pre ++ [p] = []) := by simp
      have e1 : IntKind.i64.wrap (((pre ++ [p]).length : Int) - 1) = (pre.length : Int) := by rw [len_snoc]; exact wrap_pred (by omega)
      have e2 : (pre ++ [p] ++ s)[Int.toNat (pre.length : Int)]? = some p := by rw [mid_eq]; exact at_mid _ _ _
      simp only [cond_t h0, h00, cond_false, e1, e2, if_pos (Int.natCast_nonneg pre.length), Option.bind_some, iv_Meet2 k _ _ hk, get_mid _ p s _ (fitN_len pre (some p)), set_mid _ p _ s _ (fitN_len pre (some p)), hne, if_false]
      cases s with
      | nil =>
        have h1 : ¬ ((pre ++ [p]).length : Int) < ((pre ++ [p] ++ [] : List Sl).length : Int) := by simp
        simp only [cond_f h1]
        exact next _ (I.1, I.2.1, ()) _ (fun _ => by rw [fitN_snoc]; rfl) (fun _ _ h => by cases h)
      | cons y q =>
        have h1 : ((pre ++ [p]).length : Int) < ((pre ++ [p] ++ y :: q : List Sl).length : Int) := by simp; omega
        simp only [cond_t h1, if_pos (Int.natCast_nonneg (pre ++ [p]).length), at_mid, Option.bind_some]
        exact next _ (I.1, I.2.1, ()) _ (fun h => by cases h) (fun x q h => by cases h; rw [fitN_snoc]; simp [g2])
theorem cvoid_loop (k : Nat) (r : List Iv) (T : Tb) (D2 D3 D : Nm × Iv × List Sl) (I : Nm × Iv × Unit) : ∀ (m : Nat) (s pre : List Sl), s.length < m → pre.length + s.length ≤ 1000000 →
    flow_Contract_l3 k m ((r, (), (), (), (), (), (), (((pre ++ s).length : Nat) : Int), (pre.length : Int), ()), (T, D2, D3, I, D, noneI, pre.map voidS ++ s, ())) = some (Sum.inl ((r, (), (), (), (), (), ()), (T, D2, D3, I, D, (pre ++ s).map voidS, ()))) := by
  intro m
  induction m with
  | zero => intro s pre hm; omega
  | succ m IH =>
    intro s pre hm hl
    cases s with
    | nil => simp [flow_Contract_l3]
    | cons y s =>
      simp only [List.length_cons] at hm hl
      have ih := IH s (pre ++ [y]) (by omega) (by simp; omega)
      simp only [mid_eq, len_snoc] at ih
      simp only [flow_Contract_l3, cond_t (len_lt pre y s), if_pos (Int.natCast_nonneg pre.length), Option.bind_some, get_mid _ _ s pre.length (show (pre.map voidS).length = pre.length by simp), set_mid _ _ _ s pre.length (show (pre.map voidS).length = pre.length by simp), wrap_succ (show pre.length ≤ 1000000000 by omega)]
      rw [show pre.map voidS ++ (y.1, noneI, noneI) :: s = (pre ++ [y]).map voidS ++ s by simp [voidS], ih]
theorem rates_loop (k : Nat) (r : List Iv) (T : Tb) (D : Nm × Iv × List Sl) : ∀ (s pre : List Iv) (m : Nat), s.length < m → pre.length + s.length ≤ 1000000 → ∃ i : Nat,
    flow_Contract_l0 k m ((r, (), (), false, pre ++ s, (), ((pre ++ s).length : Int), (pre.length : Int), ()), (T, D, ())) = some (bif s.all mayI then Sum.inr (Sum.inl ((r, (), (), false, ()), (T, D, ()))) else Sum.inl ((r, (), (), false, (i : Int), ()), (T, D, ())))
  | [], pre, m + 1, hm, hl => ⟨0, by simp [flow_Contract_l0]⟩
  | x :: s, pre, m + 1, hm, hl => by
    simp only [List.length_cons] at hm hl
    obtain ⟨i, ih⟩ := rates_loop k r T D s (pre ++ [x]) m (by omega) (by simp; omega)
    rw [mid_eq, len_snoc] at ih
    cases hx : mayI x
    · refine ⟨pre.length, ?_⟩
      simp only [flow_Contract_l0, cond_t (len_lt pre x s), if_pos (Int.natCast_nonneg pre.length), at_mid, Option.bind_some, flow_Contract_1, iv_May_eq, hx, List.all_cons, Bool.false_and, Bool.not_false, cond_true, cond_false]
    · refine ⟨i, ?_⟩
      simp only [flow_Contract_l0, cond_t (len_lt pre x s), if_pos (Int.natCast_nonneg pre.length), at_mid, Option.bind_some, flow_Contract_1, iv_May_eq, hx, List.all_cons, Bool.true_and, Bool.not_true, cond_false, wrap_succ (show pre.length ≤ 1000000000 by omega)]
      exact ih
/-! ### Contract -/
def contractT (t : Tb) (r : List Iv) : Tb × Int :=
  if mayT t && decide (r.length = t.2.2.length) && r.all mayI then (fitT (bwds r t.2.2.length (fwds r t.2.2.length 0 (fitT t))), 0) else (zT, 1)
theorem wfI_g2 {s : Sl} (h : wfS s) {n : Option Sl} (hn : ∀ x, n = some x → wfS x) : wfI (g2 s n) := by
  cases n with
  | none => exact wfI_two h.2.2 h.2.1
  | some x => exact wfI_two (wfI_two h.2.2 h.2.1) (hn x rfl).2.1
theorem wfS_fitN : ∀ (l : List Sl) (n : Option Sl), (∀ s ∈ l, wfS s) → (∀ x, n = some x → wfS x) → ∀ s ∈ fitN l n, wfS s
  | [], n, h, hn, s, hs => by simp [fitN] at hs
  | y :: l, n, h, hn, s, hs => by
    rw [fitN_cons] at hs
    rcases List.mem_cons.1 hs with rfl | hs
    · have hy := h y (by simp)
      refine ⟨hy.1, hy.2.1, wfI_g2 hy fun x hx => ?_⟩
      cases l with
      | nil => exact hn x (by simpa using hx)
      | cons z l =>
        have : z = x := by simpa using hx
        exact this ▸ h z (by simp)
    · exact wfS_fitN l n (fun s hs => h s (by simp [hs])) hn s hs
theorem wfT_fitU {t : Tb} (h : wfT t) : wfT (fitU t) := by
  refine ⟨h.1, ?_, wfS_fitN _ _ h.2.2 (fun x hx => by cases hx)⟩
  show wfI (nx t.2.1 t.2.2)
  cases hl : t.2.2 with
  | nil => exact h.2.1
  | cons s l => exact wfI_two h.2.1 (h.2.2 s (by rw [hl]; simp)).2.1
theorem wfT_fitT {t : Tb} (h : wfT t) : wfT (fitT t) := by
  unfold fitT
  split
  · split
    · refine ⟨h.1, wfI_none, fun s hs => ?_⟩
      obtain ⟨x, hx, rfl⟩ := List.mem_map.1 hs
      exact ⟨(h.2.2 x hx).1, wfI_none, wfI_none⟩
    · exact wfT_fitU h
  · exact h
theorem mayT_fwds {r : List Iv} : ∀ {j i : Nat} {t : Tb}, mayT t = true → mayT (fwds r j i t) = true
  | 0, _, _, h => h
  | j + 1, i, t, h => mayT_fwds (j := j) (mayT_fwd h)
theorem wfT_fwds {r : List Iv} (hr : ∀ x ∈ r, wfI x) : ∀ {j i : Nat} {t : Tb}, i + j ≤ r.length → r.length = t.2.2.length → wfT t → wfT (fwds r j i t)
  | 0, _, _, _, _, h => h
  | j + 1, i, t, h1, h2, h => wfT_fwds hr (j := j) (by omega) (by rw [fwd_len]; exact h2) (wfT_fwd hr (by omega) h (by omega))
theorem flow_Contract_eq (k : Nat) (hk : 200 ≤ k) (t : Tb) (r : List Iv) (hw : wfT t) (hr : ∀ x ∈ r, wfI x) : flow_Contract k t r = some ((contractT t r).1, (contractT t r).2, ()) := by
  simp only [flow_Contract, tube_May_eq k (show 100 ≤ k by omega), Option.bind_some, contractT]
  cases hm : mayT t
  · rfl
  have hl := mayT_len hm
  rw [Bool.not_true, cond_false]
  by_cases hlen : r.length = t.2.2.length
  · have e : ((r.length : Int) != (t.2.2.length : Int)) = false := by simp [hlen]
    rw [e, cond_false]
    obtain ⟨i, h0⟩ := rates_loop k r t (zN, (false, zN, zN), []) r [] k (by omega) (by simp; omega)
    simp only [List.nil_append, List.length_nil] at h0
    rw [show ((0 : Nat) : Int) = 0 from rfl] at h0
    erw [h0]
    cases ha : r.all mayI
    · simp
    · simp only [cond_true, Option.bind_some, Sum.elim_inr, Sum.elim_inl, cond_false, hm, Bool.not_true, hlen, decide_true, Bool.and_self, if_true]
      have g1 : t.2.2.length * 176 ≤ 140737488355328 := by omega
      rw [if_pos g1, wrap_succ (show t.2.2.length ≤ 1000000000 by omega)]
      have hmU := mayT_fitU hm
      have hwU := wfT_fitU hw
      have hmF := mayT_fitT hm
      have hwF := wfT_fitT hw
      have hlF := fitT_len t
      obtain ⟨g', h2, rfl⟩ := cfit_loop k (by omega) r t (zN, (false, zN, zN), []) (zN, (false, zN, zN), []) t.1 t.2.1 k t.2.2 [] (t.1, t.2.1) (t.1, (t.2.1, ())) t.2.2 (by omega) (by simp; omega) rfl
      simp only [List.nil_append, List.length_nil, if_true] at h2
      rw [show ((0 : Nat) : Int) = 0 from rfl] at h2
      erw [h2]
      simp only [Option.bind_some, Sum.elim_inl, tube_Empty_eq k (show 100 ≤ k by omega)]
      have hU : (t.1, nx t.2.1 t.2.2, fitN t.2.2 none) = fitU t := rfl
      have tail : ∀ u : Tb, u = fitT t → (flow_Contract_l4 k k ((r, (), (), (), (), (), (), (u.2.2.length : Int), 0, ()), ((u.1, (u.2.1, ())), (zN, (false, zN, zN), []), u.2.2, (), r, true, ()))).bind (fun q95 =>
            Sum.elim (fun z156 =>
              (flow_Contract_l5 k k (((), (), (), (), (), (), (z156.2.2.2.1.length : Int), 0, ()), ((z156.2.1.1, (z156.2.1.2.1, ())), (z156.2.2.1.1, (z156.2.2.1.2.1, z156.2.2.1.2.2)), z156.2.2.2.1, (), z156.1.1, false, ()))).bind fun q157 =>
              Sum.elim (fun z158 =>
                (tube_Fit k (z158.2.1.1, z158.2.1.2.1, z158.2.2.2.1)).bind fun r159 =>
                some (r159.1, 0, ()))
               (fun q157' =>
                none) q157)
             (fun q95' =>
              none) q95) = (some (fitT (bwds r t.2.2.length (fwds r t.2.2.length 0 (fitT t))), 0, ()) : Option (HL [(.pair TNm (.pair TIv (.list TSl))), (.int .i64)])) := by
        intro u hu
        subst hu
        have f1 := fwd_loop k hk r hr (zN, (false, zN, zN), []) t.2.2.length k 0 (fitT t) t.2.2.length (by omega) (by omega) hlF.symm hlen.symm hmF hwF
        rw [hlF]
        rw [show ((0 : Nat) : Int) = 0 from rfl] at f1
        rw [f1]
        have l1 := fwds_len r t.2.2.length 0 (fitT t)
        have f2 := bwd_loop k hk r hr (zN, (false, zN, zN), []) t.2.2.length k 0 (fwds r t.2.2.length 0 (fitT t)) t.2.2.length (by omega) (by omega) (by rw [l1, hlF]) hlen.symm (mayT_fwds hmF) (wfT_fwds hr (by omega) (by rw [hlF]; exact hlen) hwF)
        rw [show ((0 : Nat) : Int) = 0 from rfl] at f2
        simp only [Option.bind_some, Sum.elim_inl, l1, hlF]
        erw [f2]
        simp only [Option.bind_some, Sum.elim_inl, tube_Fit_eq k hk]
      rw [hU, hmU]
      cases he : emptyT (fitU t)
      · have hF : fitT t = (t.1, nx t.2.1 t.2.2, fitN t.2.2 none) := by unfold fitT; rw [if_pos hm, if_neg (by rw [he]; decide)]; rfl
        have := tail _ hF.symm
        simp only [Bool.not_true, Bool.or_self, cond_false]
        exact this
      · have hF : fitT t = (t.1, noneI, t.2.2.map voidS) := by unfold fitT; rw [if_pos hm, if_pos he]
        have fl : (fitN t.2.2 none).length = t.2.2.length := fitN_len _ _
        have g2' : (fitN t.2.2 none).length * 176 ≤ 140737488355328 := by rw [fl]; exact g1
        have h3 := cvoid_loop k r t (zN, (false, zN, zN), []) (zN, (false, zN, zN), []) (zN, (false, zN, zN), []) (t.1, (noneI, ())) k (fitN t.2.2 none) [] (by rw [fl]; omega) (by rw [fl]; simp; omega)
        simp only [List.nil_append, List.length_nil, List.map_nil] at h3
        rw [show ((0 : Nat) : Int) = 0 from rfl] at h3
        simp only [Bool.not_true, Bool.false_or, cond_true, iv_None_eq, Option.bind_some, if_pos g2']
        erw [h3]
        simp only [Option.bind_some, Sum.elim_inl]
        rw [fitN_ends]
        have := tail _ hF.symm
        exact this
  · have e : ((r.length : Int) != (t.2.2.length : Int)) = true := by simp; omega
    rw [e, cond_true]
    simp [hlen]
/-! ### the laws of layer 18: what Contract gives is within what it was given -/
theorem awake18 : peloruslaw18_awake 200 = some (true, ()) := by kernel_rfl
/-- A tube of the same times, place by place within another. -/
def Inv (u t : Tb) : Prop := mayT u = true ∧ sameT u t = true ∧ allW u.2.2 t.2.2 = true ∧ within u.2.1 t.2.1 = true
theorem Inv.refl {t : Tb} (h : mayT t = true) : Inv t t := ⟨h, by simp [sameT], allW_refl _, within_refl _⟩
theorem allW_set' : ∀ {l q : List Sl} {i : Nat} {s : Sl}, allW l q = true → (i < l.length → wiS s (slG l i) = true) → allW (l.set i s) q = true
  | [], q, i, s, h, _ => by simpa using h
  | x :: l, [], i, s, h, _ => by cases i <;> simp [allW]
  | x :: l, y :: q, 0, s, h, hs => by
    have hs : wiS s x = true := hs (by simp)
    simp only [List.set_cons_zero, allW, Bool.and_eq_true, wiS] at *
    exact ⟨⟨within_trans hs.1 h.1.1, within_trans hs.2 h.1.2⟩, h.2⟩
  | x :: l, y :: q, i + 1, s, h, hs => by
    simp only [List.set_cons_succ, allW, Bool.and_eq_true] at *
    exact ⟨h.1, allW_set' h.2 fun hi => hs (by simpa using hi)⟩
theorem sameT_set {u t : Tb} {i : Nat} {s : Sl} (h : sameT u t = true) (h1 : s.1 = (slG u.2.2 i).1) : sameT (u.1, u.2.1, u.2.2.set i s) t = true := by
  simp only [sameT, Bool.and_eq_true, decide_eq_true_eq] at *
  rw [ends_set' h1]
  exact h
theorem Inv.fwd {r : List Iv} {u t : Tb} {i : Nat} (h : Inv u t) : Inv (fwd r u i) t :=
  ⟨mayT_fwd h.1, sameT_set h.2.1 rfl, allW_set' h.2.2.1 fun _ => by simp only [wiS, two_le_left, Bool.and_self], h.2.2.2⟩
theorem Inv.setG {u t : Tb} {x : Iv} {i : Nat} (h : Inv u t) (hi : i ≤ u.2.2.length) (hx : within x (gtN u i) = true) (hm : mayI x = true) : Inv (setG u x i) t := by
  cases i with
  | zero => exact ⟨mayT_setG h.1 hm hi, h.2.1, h.2.2.1, within_trans hx h.2.2.2⟩
  | succ i => exact ⟨mayT_setG h.1 hm hi, sameT_set h.2.1 rfl, allW_set' h.2.2.1 fun _ => by simp only [wiS, within_refl, Bool.true_and]; exact hx, h.2.2.2⟩
theorem Inv.bwd {r : List Iv} {u t : Tb} {i : Nat} (h : Inv u t) (hi : i < u.2.2.length) : Inv (bwd r u i) t := by
  have h1 := h.setG (i := i) (x := two (gtN u i) (subI (gtN u (i + 1)) (runA r u i))) (by omega) (two_le_left _ _) (mayI_two _ _)
  have hl : (slG u.2.2 i) = slG (Pl.setG u (two (gtN u i) (subI (gtN u (i + 1)) (runA r u i))) i).2.2 i := (slG_setG i).symm
  refine ⟨mayT_bwd h.1 hi, sameT_set h1.2.1 (by rw [← hl]), allW_set' h1.2.2.1 fun _ => ?_, h1.2.2.2⟩
  rw [← hl]
  simp only [wiS, two_le_left, within_refl, Bool.and_self]
theorem Inv.fwds {r : List Iv} {t : Tb} : ∀ {j i : Nat} {u : Tb}, Inv u t → Inv (fwds r j i u) t
  | 0, _, _, h => h
  | j + 1, i, u, h => Inv.fwds (j := j) h.fwd
theorem Inv.bwds {r : List Iv} {t : Tb} : ∀ {j : Nat} {u : Tb}, j ≤ u.2.2.length → Inv u t → Inv (bwds r j u) t
  | 0, _, _, h => h
  | j + 1, u, hj, h => Inv.bwds (j := j) (by rw [bwd_len]; omega) (h.bwd (by omega))
theorem allW_void : ∀ (l : List Sl), allW (l.map voidS) l = true
  | [] => rfl
  | x :: l => by simp [allW, wiS, voidS, within_none, allW_void l]
theorem Inv.fitT {t : Tb} (h : mayT t = true) : Inv (fitT t) t := by
  refine ⟨mayT_fitT h, sameT_fitT t, ?_, ?_⟩
  · unfold Pl.fitT
    rw [if_pos h]
    split
    · exact allW_void _
    · exact allW_fitN _ _
  · unfold Pl.fitT
    rw [if_pos h]
    split
    · exact within_none _
    · exact nx_le _ _
theorem contract_inv {t : Tb} {r : List Iv} (hm : mayT t = true) : Inv (bwds r t.2.2.length (fwds r t.2.2.length 0 (fitT t))) t :=
  Inv.bwds (by rw [fwds_len, fitT_len]; omega) (Inv.fwds (Inv.fitT hm))
theorem contract_within {t : Tb} {r : List Iv} (h : (contractT t r).2 = 0) : mayT (contractT t r).1 = true ∧ withinT (contractT t r).1 t = true := by
  unfold contractT at *
  split at h
  case isFalse => cases h
  rename_i hm
  rw [if_pos hm]
  simp only [Bool.and_eq_true] at hm
  have i := contract_inv (r := r) hm.1.1
  exact ⟨mayT_fitT i.1, withinT_fitT i.1 hm.1.1 i.2.1 i.2.2.1 i.2.2.2⟩
theorem contract_err {t : Tb} {r : List Iv} (h : (contractT t r).2 ≠ 0) : (contractT t r).1 = zT := by
  unfold contractT at *
  split
  · rename_i hm; rw [if_pos hm] at h; exact absurd rfl h
  · rfl
theorem FlowWithin (t : Tb) (r : List Iv) (hw : wfT t) (hr : ∀ x ∈ r, wfI x) : ∃ k, peloruslaw18_FlowWithin k t r = some (true, ()) := by
  refine ⟨200, ?_⟩
  simp only [peloruslaw18_FlowWithin, awake18, few_eq, Option.bind_some, flow_Contract_eq 200 (by decide) t r hw hr, tube_May_eq 200 (by decide), tube_Within_eq 200 (by decide)]
  by_cases h : (t.2.2.length : Int) ≤ 70
  · by_cases h1 : (r.length : Int) ≤ 70
    · by_cases h0 : (contractT t r).2 = 0
      · obtain ⟨h2, h3⟩ := contract_within h0
        have e : ((contractT t r).2 != 0) = false := by simp [h0]
        rw [e, h2, h3]
        simp [h, h1]
      · have e : ((contractT t r).2 != 0) = true := by simp [h0]
        rw [e, contract_err h0]
        simp [h, h1]
    · simp [h, h1]
  · simp [h]
/-! ### what may be handed in: its numbers are of 64 bits -/
theorem okN {x : Nm} (h : okU TNm x) : wfN x := by
  have h1 : (Lit.int .u64 x.2.2.1).wf = true := h.2.2.1
  have := ((Lit.wf_int_iff .u64 x.2.2.1).1 h1).2
  have e : IntKind.max .u64 = 18446744073709551615 := by decide
  rw [e] at this
  unfold wfN
  omega
theorem okI {x : Iv} (h : okU TIv x) : wfI x := ⟨okN h.2.1, okN h.2.2⟩
theorem okIs {l : List Iv} (h : okU (.list TIv) l) : ∀ x ∈ l, wfI x := fun x hx => okI (h.2 x hx)
theorem okS' {x : Sl} (h : okU TSl x) : wfS x := ⟨okN h.1, okI h.2.1, okI h.2.2⟩
theorem okT {t : Tb} (h : okU (.pair TNm (.pair TIv (.list TSl))) t) : wfT t := ⟨okN h.1, okI h.2.1, fun s hs => okS' (h.2.2.2 s hs)⟩
end Go.Proofs.Ytmlnohiaagmgnaa.Rf.Pl
