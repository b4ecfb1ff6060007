/- Plain laws: what the functions answer, without the program's memory (part 1). No condition. -/
import Derived.Test.YtmlnohiaagmgnaaGreatR1
import Derived.KernelRfl
import Derived.DataShut
import Derived.Laws.BitsLemmas
import Derived.Lib.EndianBits
namespace Go.Proofs.YtmlnohiaagmgnaaGreat.Rf.Pl
open Go Go.Proofs
set_option linter.unusedVariables false
set_option linter.unusedSimpArgs false
/-! ### numbers and intervals: what the functions of layers 5 and 8 answer -/
abbrev Nm := Int × Bool × Int × Int
abbrev Iv := Bool × Nm × Nm
abbrev Sl := Nm × Iv × Iv
abbrev Tb := Nm × Iv × List Sl
abbrev TNm : Ty := (.pair (.int .i64) (.pair .bool (.pair (.int .u64) (.int .i64))))
abbrev TIv : Ty := (.pair .bool (.pair TNm TNm))
abbrev TSl : Ty := (.pair TNm (.pair TIv TIv))

theorem beqN (x y : Nm) : beqT TNm x y = decide (x = y) := by
  obtain ⟨a, b, c, d⟩ := x; obtain ⟨a', b', c', d'⟩ := y
  simp only [beqT, Prod.mk.injEq, Bool.decide_and]
  congr 1
theorem beqI (x y : Iv) : beqT TIv x y = decide (x = y) := by
  obtain ⟨a, b, c⟩ := x; obtain ⟨a', b', c'⟩ := y
  rw [show beqT TIv (a, b, c) (a', b', c') = ((a == a') && (beqT TNm b b' && beqT TNm c c')) from rfl, beqN, beqN]
  simp only [Prod.mk.injEq, Bool.decide_and]
  cases a <;> cases a' <;> rfl
instance decSl : DecidableEq Sl := fun x y => decidable_of_iff (x.1 = y.1 ∧ x.2.1 = y.2.1 ∧ x.2.2 = y.2.2) ⟨fun h => Prod.ext h.1 (Prod.ext h.2.1 h.2.2), fun h => h ▸ ⟨rfl, rfl, rfl⟩⟩
theorem beqS (x y : Sl) : beqT TSl x y = decide (x = y) := by
  obtain ⟨a, b, c⟩ := x; obtain ⟨a', b', c'⟩ := y
  rw [show beqT TSl (a, b, c) (a', b', c') = (beqT TNm a a' && (beqT TIv b b' && beqT TIv c c')) from rfl, beqN, beqI, beqI]
  simp only [Prod.mk.injEq, Bool.decide_and]

abbrev zN : Nm := (0, false, 0, 0)
abbrev inf (b : Bool) : Nm := (2, b, 0, 0)
def may (n : Nm) : Bool := (decide (n = zN)) || (n.1 == 1 && decide (9223372036854775808 ≤ n.2.2.1) && decide (-1048576 ≤ n.2.2.2) && decide (n.2.2.2 ≤ 1048576)) || (n.1 == 2 && n.2.2.1 == 0 && n.2.2.2 == 0)
def fair (n : Nm) : Nm := if may n then n else zN
def sgn (n : Nm) : Int := if (fair n).1 = 0 then 0 else if (fair n).2.1 then -1 else 1
/-- Where a number that may be stands in their order. -/
def tri (n : Nm) : Int × Int × Int := if n.2.1 then (-n.1, -n.2.2.2, -n.2.2.1) else (n.1, n.2.2.2, n.2.2.1)
def tlt (a b : Int × Int × Int) : Prop := a.1 < b.1 ∨ a.1 = b.1 ∧ (a.2.1 < b.2.1 ∨ a.2.1 = b.2.1 ∧ a.2.2 < b.2.2)
instance (a b : Int × Int × Int) : Decidable (tlt a b) := by unfold tlt; exact inferInstance
abbrev nlt (a b : Nm) : Prop := tlt (tri (fair a)) (tri (fair b))
def cmp (a b : Nm) : Int := if nlt a b then -1 else if nlt b a then 1 else 0

theorem wrap_small {x : Int} (h : -9223372036854775808 ≤ x) (h' : x ≤ 9223372036854775807) : IntKind.i64.wrap x = x := by
  simp only [IntKind.wrap, IntKind.bits, IntKind.signed]
  simp
  omega

theorem may_zN : may zN = true := by decide
theorem may_inf (b : Bool) : may (inf b) = true := by cases b <;> decide
theorem may_fair (n : Nm) : may (fair n) = true := by 
  unfold fair
  split
  · assumption
  · exact may_zN
theorem fair_fair (n : Nm) : fair (fair n) = fair n := by
  rw [fair, if_pos (may_fair n)]
theorem fair_may {n : Nm} (h : may n = true) : fair n = n := by rw [fair, if_pos h]
theorem may_cases {n : Nm} (h : may n = true) : n = zN ∨ (n.1 = 1 ∧ 9223372036854775808 ≤ n.2.2.1 ∧ -1048576 ≤ n.2.2.2 ∧ n.2.2.2 ≤ 1048576) ∨ (n.1 = 2 ∧ n.2.2.1 = 0 ∧ n.2.2.2 = 0) := by
  simp only [may, Bool.or_eq_true, Bool.and_eq_true, decide_eq_true_eq, beq_iff_eq] at h
  grind

theorem num_May_eq (k : Nat) (n : Nm) : num_May k n = some (may n, ()) := by
  obtain ⟨a, b, c, d⟩ := n
  simp only [num_May, beqN, may, cond_eq_ite, beq_iff_eq]
  repeat' split
  all_goals (first | omega | simp_all <;> omega)
theorem rnum_May_eq (k : Nat) (n : Nm) : pelorusref05_May k n = some (may n, ()) := by
  obtain ⟨a, b, c, d⟩ := n
  simp only [pelorusref05_May, may, cond_eq_ite, beq_iff_eq, Prod.mk.injEq]
  cases b
  all_goals (repeat' split)
  all_goals (first | omega | (simp_all; done) | (simp_all; omega) | (simp_all; rfl))
theorem num_fair_eq (k : Nat) (n : Nm) : num_fair k n = some (fair n, ()) := by
  simp only [num_fair, num_May_eq, Option.bind_some, fair]
  cases may n <;> rfl
theorem rnum_fair_eq (k : Nat) (n : Nm) : pelorusref05_fair k n = some (fair n, ()) := by
  simp only [pelorusref05_fair, rnum_May_eq, Option.bind_some, fair]
  cases may n <;> rfl
theorem num_Sign_eq (k : Nat) (n : Nm) : num_Sign k n = some (sgn n, ()) := by
  simp only [num_Sign, num_fair_eq, Option.bind_some, sgn, cond_eq_ite, beq_iff_eq]
  grind
theorem rnum_Sign_eq (k : Nat) (n : Nm) : pelorusref05_Sign k n = some (sgn n, ()) := by
  simp only [pelorusref05_Sign, rnum_fair_eq, Option.bind_some, sgn, cond_eq_ite, beq_iff_eq]
  grind
theorem num_Cmp_eq (k : Nat) (a b : Nm) : num_Cmp k a b = some (cmp a b, ()) := by
  simp only [num_Cmp, num_fair_eq, Option.bind_some, num_Sign_eq, num_farther, sgn, fair_fair, cmp, nlt]
  have ha := may_cases (may_fair a)
  have hb := may_cases (may_fair b)
  generalize fair a = x at *
  generalize fair b = y at *
  obtain ⟨a, b, c, d⟩ := x; obtain ⟨a', b', c', d'⟩ := y
  have w1 : IntKind.i64.wrap (0 - 1) = -1 := by decide
  have w2 : IntKind.i64.wrap (0 - (-1)) = 1 := by decide
  have w3 : IntKind.i64.wrap 0 = 0 := by decide
  simp only [Prod.mk.injEq] at ha hb
  simp only [cond_eq_ite, bne_iff_ne, ne_eq, decide_eq_true_eq, tlt, tri]
  cases b <;> cases b' <;> simp at ha hb ⊢ <;> grind
theorem rnum_Cmp_eq (k : Nat) (a b : Nm) : pelorusref05_Cmp k a b = some (cmp a b, ()) := by
  simp only [pelorusref05_Cmp, rnum_fair_eq, Option.bind_some, rnum_Sign_eq, sgn, fair_fair, cmp, nlt, beqN]
  have ha := may_cases (may_fair a)
  have hb := may_cases (may_fair b)
  generalize fair a = x at *
  generalize fair b = y at *
  obtain ⟨a, b, c, d⟩ := x; obtain ⟨a', b', c', d'⟩ := y
  have w1 : IntKind.i64.wrap (0 - 1) = -1 := by decide
  have w2 : IntKind.i64.wrap (0 - (-1)) = 1 := by decide
  have w3 : IntKind.i64.wrap 0 = 0 := by decide
  simp only [Prod.mk.injEq] at ha hb
  simp only [cond_eq_ite, bne_iff_ne, ne_eq, decide_eq_true_eq, tlt, tri, Prod.mk.injEq, beq_iff_eq]
  cases b <;> cases b' <;> simp at ha hb ⊢ <;> grind
theorem sgn_eq (n : Nm) : sgn n = if (fair n).1 = 0 then 0 else if (fair n).2.1 then -1 else 1 := rfl
theorem cmp_fair_l (a b : Nm) : cmp (fair a) b = cmp a b := by simp only [cmp, nlt, fair_fair]
theorem cmp_fair_r (a b : Nm) : cmp a (fair b) = cmp a b := by simp only [cmp, nlt, fair_fair]
theorem tri_inj {a b : Nm} (ha : may a = true) (hb : may b = true) (h : tri a = tri b) : a = b := by
  have ha := may_cases ha
  have hb := may_cases hb
  obtain ⟨x1, x2, x3, x4⟩ := a; obtain ⟨y1, y2, y3, y4⟩ := b
  simp only [tri, Prod.mk.injEq] at *
  cases x2 <;> cases y2 <;> simp at ha hb h ⊢ <;> grind
theorem cmp_zero {a b : Nm} : cmp a b = 0 ↔ fair a = fair b := by
  refine ⟨fun h => tri_inj (may_fair a) (may_fair b) ?_, fun h => ?_⟩
  · simp only [cmp, nlt, tlt] at h
    generalize tri (fair a) = x at *
    generalize tri (fair b) = y at *
    obtain ⟨x1, x2, x3⟩ := x; obtain ⟨y1, y2, y3⟩ := y
    simp only [Prod.mk.injEq] at h ⊢
    grind
  · simp only [cmp, nlt, h, tlt]
    simp
theorem cmp_self (a : Nm) : cmp a a = 0 := cmp_zero.2 rfl
theorem cmp_cases (a b : Nm) : cmp a b = -1 ∨ cmp a b = 0 ∨ cmp a b = 1 := by unfold cmp; grind
theorem cmp_swap (a b : Nm) : cmp b a = - cmp a b := by
  simp only [cmp, nlt, tlt]
  generalize tri (fair a) = x
  generalize tri (fair b) = y
  obtain ⟨x1, x2, x3⟩ := x; obtain ⟨y1, y2, y3⟩ := y
  dsimp only
  repeat' split
  all_goals omega
/-- Their order, as one of places. -/
theorem cmp_le {a b : Nm} : cmp a b ≤ 0 ↔ ¬ tlt (tri (fair b)) (tri (fair a)) := by
  simp only [cmp, nlt, tlt]
  generalize tri (fair a) = x
  generalize tri (fair b) = y
  obtain ⟨x1, x2, x3⟩ := x; obtain ⟨y1, y2, y3⟩ := y
  dsimp only
  repeat' split
  all_goals omega
theorem cmp_lt {a b : Nm} : cmp a b < 0 ↔ tlt (tri (fair a)) (tri (fair b)) := by
  simp only [cmp, nlt, tlt]
  generalize tri (fair a) = x
  generalize tri (fair b) = y
  obtain ⟨x1, x2, x3⟩ := x; obtain ⟨y1, y2, y3⟩ := y
  dsimp only
  repeat' split
  all_goals omega
theorem cmp_le_trans {a b c : Nm} (h1 : cmp a b ≤ 0) (h2 : cmp b c ≤ 0) : cmp a c ≤ 0 := by
  rw [cmp_le] at *
  simp only [tlt] at *
  omega
theorem cmp_lt_of_lt_le {a b c : Nm} (h1 : cmp a b < 0) (h2 : cmp b c ≤ 0) : cmp a c < 0 := by
  rw [cmp_le] at h2
  rw [cmp_lt] at *
  simp only [tlt] at *
  omega
theorem cmp_lt_of_le_lt {a b c : Nm} (h1 : cmp a b ≤ 0) (h2 : cmp b c < 0) : cmp a c < 0 := by
  rw [cmp_le] at h1
  rw [cmp_lt] at *
  simp only [tlt] at *
  omega
theorem cmp_pos {a b : Nm} : cmp a b > 0 ↔ cmp b a < 0 := by have := cmp_swap a b; omega
theorem cmp_nonneg {a b : Nm} : cmp a b ≥ 0 ↔ cmp b a ≤ 0 := by have := cmp_swap a b; omega
theorem cmp_anti {a b : Nm} (h1 : cmp a b ≤ 0) (h2 : cmp b a ≤ 0) : fair a = fair b := cmp_zero.1 (by have := cmp_swap a b; omega)

/-! intervals -/
abbrev noneI : Iv := (true, zN, zN)
abbrev allI : Iv := (false, inf true, inf false)
def mayI (x : Iv) : Bool := if x.1 then decide (x = noneI) else may x.2.1 && may x.2.2 && decide (cmp x.2.1 x.2.2 ≤ 0) && !decide (x.2.1 = inf false) && !decide (x.2.2 = inf true)
def fairI (x : Iv) : Iv := if mayI x then x else noneI
def neg (n : Nm) : Nm := ((fair n).1, (if (fair n).1 = 0 then false else !(fair n).2.1), (fair n).2.2)
def mkI (lo hi : Nm) : Iv := fairI (false, fair lo, fair hi)
def within (a b : Iv) : Bool := (fairI a).1 || (!(fairI b).1 && decide (cmp (fairI b).2.1 (fairI a).2.1 ≤ 0) && decide (cmp (fairI a).2.2 (fairI b).2.2 ≤ 0))
def has (x : Iv) (n : Nm) : Bool := !(mkI n n).1 && within (mkI n n) x
def most (l : List Nm) : Nm := l.foldl (fun a n => if cmp n a > 0 then fair n else a) (inf true)
def least (l : List Nm) : Nm := l.foldl (fun a n => if cmp n a < 0 then fair n else a) (inf false)
def losOf (l : List Iv) : List Nm := (l.filter (fun x => !(fairI x).1)).map (fun x => (fairI x).2.1)
def hisOf (l : List Iv) : List Nm := (l.filter (fun x => !(fairI x).1)).map (fun x => (fairI x).2.2)
def meet (l : List Iv) : Iv := if l.all (fun x => !(fairI x).1) then mkI (most (losOf l)) (least (hisOf l)) else noneI
def hull (l : List Iv) : Iv := if losOf l = [] then noneI else mkI (least (losOf l)) (most (hisOf l))
def two (a b : Iv) : Iv := if (fairI a).1 || (fairI b).1 then noneI else mkI (most [(fairI a).2.1, (fairI b).2.1]) (least [(fairI a).2.2, (fairI b).2.2])
def both (a b : Iv) : Iv := if (fairI a).1 then fairI b else if (fairI b).1 then fairI a else mkI (least [(fairI a).2.1, (fairI b).2.1]) (most [(fairI a).2.2, (fairI b).2.2])

theorem iv_None_eq (k : Nat) : iv_None k = some (noneI, ()) := rfl
theorem rNone_eq (k : Nat) : pelorusref08_None k = some (noneI, ()) := rfl
theorem iv_All_eq (k : Nat) : iv_All k = some (allI, ()) := rfl
theorem rAll_eq (k : Nat) : pelorusref08_All k = some (allI, ()) := rfl
theorem num_Inf_eq (k : Nat) (b : Bool) : num_Infinite k b = some (inf b, ()) := rfl
theorem rInf_eq (k : Nat) (b : Bool) : pelorusref05_Infinite k b = some (inf b, ()) := rfl

theorem iv_May_eq (k : Nat) (x : Iv) : iv_May k x = some (mayI x, ()) := by
  simp only [iv_May, iv_None_eq, num_May_eq, num_Cmp_eq, num_Inf_eq, Option.bind_some, beqI, beqN, mayI]
  obtain ⟨e, lo, hi⟩ := x
  cases e
  · by_cases hc : cmp lo hi ≤ 0
    · cases may lo <;> cases may hi <;> simp [cond_eq_ite, hc]
      split <;> simp_all
    · cases may lo <;> cases may hi <;> simp [cond_eq_ite, hc]
  · simp
theorem rMayI_eq (k : Nat) (x : Iv) : pelorusref08_May k x = some (mayI x, ()) := by
  simp only [pelorusref08_May, rNone_eq, rnum_May_eq, rnum_Cmp_eq, rInf_eq, Option.bind_some, beqI, beqN, mayI]
  obtain ⟨e, lo, hi⟩ := x
  cases e
  · by_cases hc : cmp lo hi ≤ 0
    · cases may lo <;> cases may hi <;> simp [cond_eq_ite, hc]
      split <;> simp_all
    · cases may lo <;> cases may hi <;> simp [cond_eq_ite, hc]
  · simp
theorem iv_fair_eq (k : Nat) (x : Iv) : iv_fair k x = some (fairI x, ()) := by
  simp only [iv_fair, iv_May_eq, iv_None_eq, Option.bind_some, fairI]
  cases mayI x <;> rfl
theorem rFair_eq (k : Nat) (x : Iv) : pelorusref08_Fair k x = some (fairI x, ()) := by
  simp only [pelorusref08_Fair, rMayI_eq, rNone_eq, Option.bind_some, fairI]
  cases mayI x <;> rfl
theorem r6Fair_eq (k : Nat) (n : Nm) : pelorusref06_Fair k n = some (fair n, ()) := by
  simp only [pelorusref06_Fair, rnum_May_eq, Option.bind_some, fair]
  cases may n <;> rfl
theorem num_Neg_eq (k : Nat) (n : Nm) : num_Neg k n = some (neg n, ()) := by
  simp only [num_Neg, num_fair_eq, Option.bind_some, neg, cond_eq_ite, bne_iff_ne]
  split <;> simp_all
theorem may_neg (n : Nm) : may (neg n) = true := by
  have h := may_cases (may_fair n)
  unfold neg
  generalize fair n = x at *
  obtain ⟨a, b, c, d⟩ := x
  simp only [may, Prod.mk.injEq] at *
  cases b <;> simp at h ⊢ <;> grind
theorem neg_neg (n : Nm) : neg (neg n) = fair n := by
  have h := may_neg n
  rw [neg, fair_may h]
  unfold neg
  have h := may_cases (may_fair n)
  generalize fair n = x at *
  obtain ⟨a, b, c, d⟩ := x
  simp only [Prod.mk.injEq] at *
  cases b <;> simp at h ⊢ <;> grind
theorem iv_Make_eq (k : Nat) (a b : Nm) : iv_Make k a b = some (mkI a b, ()) := by
  simp only [iv_Make, num_Neg_eq, iv_fair_eq, Option.bind_some, neg_neg, mkI]
theorem rMake_eq (k : Nat) (a b : Nm) : pelorusref08_Make k a b = some (mkI a b, ()) := by
  simp only [pelorusref08_Make, r6Fair_eq, rFair_eq, Option.bind_some, mkI]
theorem iv_Point_eq (k : Nat) (a : Nm) : iv_Point k a = some (mkI a a, ()) := by
  simp only [iv_Point, iv_Make_eq, Option.bind_some]
/-! ### the loops over numbers and intervals -/
theorem at_mid {α : Type} (pre : List α) (x : α) (suf : List α) : (pre ++ x :: suf)[Int.toNat (pre.length : Int)]? = some x := by simp
theorem wrap_succ {n : Nat} (h : n ≤ 1000000000) : IntKind.i64.wrap ((n : Int) + 1) = ((n + 1 : Nat) : Int) := by
  rw [wrap_small (by omega) (by omega)]; rfl
theorem most_loop (k : Nat) : ∀ (s pre : List Nm) (m : Nat) (z a : Nm), s.length < m → pre.length + s.length ≤ 1000000 →
    num_Most_l0 k m (((), (), pre ++ s, ((pre ++ s).length : Int), (pre.length : Int), ()), (z, a, ())) = some (Sum.inl (((), (), ()), (z, s.foldl (fun a n => if cmp n a > 0 then fair n else a) a, ())))
  | [], pre, m + 1, z, a, hm, hl => by simp [num_Most_l0]
  | x :: s, pre, m + 1, z, a, hm, hl => by
    simp only [List.length_cons] at hm hl
    have ih := fun b => most_loop k s (pre ++ [x]) m z b (by omega) (by simp; omega)
    have hlt : (pre.length : Int) < ((pre ++ x :: s).length : Int) := by simp; omega
    simp only [num_Most_l0, decide_eq_true hlt, cond_true, if_pos (Int.natCast_nonneg pre.length), at_mid, Option.bind_some, num_Cmp_eq, num_fair_eq, wrap_succ (show pre.length ≤ 1000000000 by omega)]
    simp only [List.append_assoc, List.singleton_append, List.length_append, List.length_cons, List.length_nil, Nat.zero_add] at ih ⊢
    rw [List.foldl_cons]
    by_cases hc : cmp x a > 0
    · simp only [hc, decide_true, cond_true, if_true]; exact ih _
    · simp only [hc, decide_false, cond_false, if_false]; exact ih _
theorem num_Most_eq (k : Nat) (l : List Nm) (h : l.length < k) (h' : l.length ≤ 1000000) : num_Most k l = some (most l, ()) := by
  have := most_loop k l [] k zN (inf true) h (by simpa using h')
  simp only [List.nil_append, List.length_nil] at this
  simp only [num_Most, num_Inf_eq, Option.bind_some]
  rw [show ((0 : Nat) : Int) = 0 from rfl] at this
  rw [this]
  rfl
theorem least_loop (k : Nat) : ∀ (s pre : List Nm) (m : Nat) (z a : Nm), s.length < m → pre.length + s.length ≤ 1000000 →
    num_Least_l0 k m (((), (), pre ++ s, ((pre ++ s).length : Int), (pre.length : Int), ()), (z, a, ())) = some (Sum.inl (((), (), ()), (z, s.foldl (fun a n => if cmp n a < 0 then fair n else a) a, ())))
  | [], pre, m + 1, z, a, hm, hl => by simp [num_Least_l0]
  | x :: s, pre, m + 1, z, a, hm, hl => by
    simp only [List.length_cons] at hm hl
    have ih := fun b => least_loop k s (pre ++ [x]) m z b (by omega) (by simp; omega)
    have hlt : (pre.length : Int) < ((pre ++ x :: s).length : Int) := by simp; omega
    simp only [num_Least_l0, decide_eq_true hlt, cond_true, if_pos (Int.natCast_nonneg pre.length), at_mid, Option.bind_some, num_Cmp_eq, num_fair_eq, wrap_succ (show pre.length ≤ 1000000000 by omega)]
    simp only [List.append_assoc, List.singleton_append, List.length_append, List.length_cons, List.length_nil, Nat.zero_add] at ih ⊢
    rw [List.foldl_cons]
    by_cases hc : cmp x a < 0
    · simp only [hc, decide_true, cond_true, if_true]; exact ih _
    · simp only [hc, decide_false, cond_false, if_false]; exact ih _
theorem num_Least_eq (k : Nat) (l : List Nm) (h : l.length < k) (h' : l.length ≤ 1000000) : num_Least k l = some (least l, ()) := by
  have := least_loop k l [] k zN (inf false) h (by simpa using h')
  simp only [List.nil_append, List.length_nil] at this
  simp only [num_Least, num_Inf_eq, Option.bind_some]
  rw [show ((0 : Nat) : Int) = 0 from rfl] at this
  rw [this]
  rfl
theorem rmost_loop (k : Nat) : ∀ (s pre : List Nm) (m : Nat) (z a : Nm), s.length < m → pre.length + s.length ≤ 1000000 →
    pelorusref05_Most_l0 k m ((pre ++ s, (), (), (pre.length : Int), ()), (z, a, ())) = some (Sum.inl (((), (), ()), (z, s.foldl (fun a n => if cmp n a > 0 then fair n else a) a, ())))
  | [], pre, m + 1, z, a, hm, hl => by simp [pelorusref05_Most_l0]
  | x :: s, pre, m + 1, z, a, hm, hl => by
    simp only [List.length_cons] at hm hl
    have ih := fun b => rmost_loop k s (pre ++ [x]) m z b (by omega) (by simp; omega)
    have hlt : (pre.length : Int) < ((pre ++ x :: s).length : Int) := by simp; omega
    simp only [pelorusref05_Most_l0, decide_eq_true hlt, cond_true, if_pos (Int.natCast_nonneg pre.length), at_mid, Option.bind_some, rnum_Cmp_eq, rnum_fair_eq, wrap_succ (show pre.length ≤ 1000000000 by omega)]
    simp only [List.append_assoc, List.singleton_append, List.length_append, List.length_cons, List.length_nil, Nat.zero_add] at ih ⊢
    rw [List.foldl_cons]
    by_cases hc : cmp x a > 0
    · simp only [hc, decide_true, cond_true, if_true]; exact ih _
    · simp only [hc, decide_false, cond_false, if_false]; exact ih _
theorem rMost_eq (k : Nat) (l : List Nm) (h : l.length < k) (h' : l.length ≤ 1000000) : pelorusref05_Most k l = some (most l, ()) := by
  have := rmost_loop k l [] k zN (inf true) h (by simpa using h')
  simp only [List.nil_append, List.length_nil] at this
  simp only [pelorusref05_Most, rInf_eq, Option.bind_some]
  rw [show ((0 : Nat) : Int) = 0 from rfl] at this
  rw [this]
  rfl
theorem rleast_loop (k : Nat) : ∀ (s pre : List Nm) (m : Nat) (z a : Nm), s.length < m → pre.length + s.length ≤ 1000000 →
    pelorusref05_Least_l0 k m ((pre ++ s, (), (), (pre.length : Int), ()), (z, a, ())) = some (Sum.inl (((), (), ()), (z, s.foldl (fun a n => if cmp n a < 0 then fair n else a) a, ())))
  | [], pre, m + 1, z, a, hm, hl => by simp [pelorusref05_Least_l0]
  | x :: s, pre, m + 1, z, a, hm, hl => by
    simp only [List.length_cons] at hm hl
    have ih := fun b => rleast_loop k s (pre ++ [x]) m z b (by omega) (by simp; omega)
    have hlt : (pre.length : Int) < ((pre ++ x :: s).length : Int) := by simp; omega
    simp only [pelorusref05_Least_l0, decide_eq_true hlt, cond_true, if_pos (Int.natCast_nonneg pre.length), at_mid, Option.bind_some, rnum_Cmp_eq, rnum_fair_eq, wrap_succ (show pre.length ≤ 1000000000 by omega)]
    simp only [List.append_assoc, List.singleton_append, List.length_append, List.length_cons, List.length_nil, Nat.zero_add] at ih ⊢
    rw [List.foldl_cons]
    by_cases hc : cmp x a < 0
    · simp only [hc, decide_true, cond_true, if_true]; exact ih _
    · simp only [hc, decide_false, cond_false, if_false]; exact ih _
theorem rLeast_eq (k : Nat) (l : List Nm) (h : l.length < k) (h' : l.length ≤ 1000000) : pelorusref05_Least k l = some (least l, ()) := by
  have := rleast_loop k l [] k zN (inf false) h (by simpa using h')
  simp only [List.nil_append, List.length_nil] at this
  simp only [pelorusref05_Least, rInf_eq, Option.bind_some]
  rw [show ((0 : Nat) : Int) = 0 from rfl] at this
  rw [this]
  rfl

theorem losOf_cons (x : Iv) (s : List Iv) : losOf (x :: s) = if (fairI x).1 then losOf s else (fairI x).2.1 :: losOf s := by
  simp only [losOf, List.filter_cons]
  cases (fairI x).1 <;> simp
theorem hisOf_cons (x : Iv) (s : List Iv) : hisOf (x :: s) = if (fairI x).1 then hisOf s else (fairI x).2.2 :: hisOf s := by
  simp only [hisOf, List.filter_cons]
  cases (fairI x).1 <;> simp
theorem losOf_le (s : List Iv) : (losOf s).length ≤ s.length := by simp only [losOf, List.length_map]; exact List.length_filter_le _ _
theorem hisOf_le (s : List Iv) : (hisOf s).length ≤ s.length := by simp only [hisOf, List.length_map]; exact List.length_filter_le _ _

theorem ends_loop (k : Nat) : ∀ (s pre : List Iv) (m : Nat) (al : Bool) (lo hi : List Nm), s.length < m → pre.length + s.length ≤ 1000000 → lo.length ≤ pre.length → hi.length ≤ pre.length →
    iv_ends_l0 k m (((), (), al, pre ++ s, ((pre ++ s).length : Int), (pre.length : Int), ()), (lo, hi, ())) = some (Sum.inl (((), (), al && s.all (fun x => !(fairI x).1), ()), (lo ++ losOf s, hi ++ hisOf s, ())))
  | [], pre, m + 1, al, lo, hi, hm, hl, h1, h2 => by simp [iv_ends_l0, losOf, hisOf]
  | x :: s, pre, m + 1, al, lo, hi, hm, hl, h1, h2 => by
    simp only [List.length_cons] at hm hl
    have ih := fun al lo hi h1 h2 => ends_loop k s (pre ++ [x]) m al lo hi (by omega) (by simp; omega) h1 h2
    have hlt : (pre.length : Int) < ((pre ++ x :: s).length : Int) := by simp; omega
    have g1 : (lo.length + [(fairI x).2.1].length) * 32 ≤ 140737488355328 := by simp; omega
    have g2 : (hi.length + [(fairI x).2.2].length) * 32 ≤ 140737488355328 := by simp; omega
    simp only [iv_ends_l0, decide_eq_true hlt, cond_true, if_pos (Int.natCast_nonneg pre.length), at_mid, Option.bind_some, iv_fair_eq, wrap_succ (show pre.length ≤ 1000000000 by omega), if_pos g1, if_pos g2]
    simp only [List.append_assoc, List.singleton_append, List.length_append, List.length_cons, List.length_nil, Nat.zero_add] at ih ⊢
    cases hc : (fairI x).1
    · have := ih al (lo ++ [(fairI x).2.1]) (hi ++ [(fairI x).2.2]) (by simp; omega) (by simp; omega)
      simp only [cond_false, losOf_cons, hisOf_cons, hc, List.all_cons, Bool.not_false, Bool.true_and]
      simpa using this
    · have := ih false lo hi (by omega) (by omega)
      simp only [cond_true, losOf_cons, hisOf_cons, hc, List.all_cons, Bool.not_true, Bool.false_and, Bool.and_false, if_true]
      simpa using this
theorem iv_ends_eq (k : Nat) (l : List Iv) (h : l.length < k) (h' : l.length ≤ 1000000) : iv_ends k l = some (losOf l, hisOf l, l.all (fun x => !(fairI x).1), ()) := by
  have := ends_loop k l [] k true [] [] h (by simpa using h') (by simp) (by simp)
  simp only [List.nil_append, List.length_nil, Bool.true_and] at this
  simp only [iv_ends]
  rw [show ((0 : Nat) : Int) = 0 from rfl] at this
  rw [this]
  rfl
theorem iv_Meet_eq (k : Nat) (l : List Iv) (h : l.length < k) (h' : l.length ≤ 1000000) : iv_Meet k l = some (meet l, ()) := by
  have h1 := losOf_le l
  have h2 := hisOf_le l
  simp only [iv_Meet, iv_ends_eq k l h h', Option.bind_some, iv_None_eq, num_Most_eq k (losOf l) (by omega) (by omega), num_Least_eq k (hisOf l) (by omega) (by omega), iv_Make_eq, meet]
  cases l.all (fun x => !(fairI x).1) <;> rfl
theorem meet_two (a b : Iv) : meet [a, b] = two a b := by
  simp only [meet, two, List.all_cons, List.all_nil, losOf_cons, hisOf_cons]
  cases (fairI a).1 <;> cases (fairI b).1 <;> simp [losOf, hisOf]
theorem iv_Meet2 (k : Nat) (a b : Iv) (h : 3 ≤ k) : iv_Meet k [a, b] = some (two a b, ()) := by
  rw [iv_Meet_eq k _ (by simp; omega) (by simp), meet_two]
theorem rTwo_eq (k : Nat) (a b : Iv) (h : 3 ≤ k) : pelorusref08_Two k a b = some (two a b, ()) := by
  simp only [pelorusref08_Two, rFair_eq, Option.bind_some, rNone_eq, rMost_eq k [(fairI a).2.1, (fairI b).2.1] (by simp; omega) (by simp), rLeast_eq k [(fairI a).2.2, (fairI b).2.2] (by simp; omega) (by simp), rMake_eq, two]
  cases (fairI a).1 <;> cases (fairI b).1 <;> rfl
/-! ### laws of intervals -/
theorem fair_inf {n : Nm} (h : (fair n).1 = 2) : fair n = inf (fair n).2.1 := by
  have := may_cases (may_fair n)
  generalize fair n = x at *
  obtain ⟨x1, x2, x3, x4⟩ := x
  simp only [Prod.mk.injEq] at this h ⊢
  grind
theorem mayI_iff {lo hi : Nm} : mayI (false, lo, hi) = true ↔ may lo = true ∧ may hi = true ∧ cmp lo hi ≤ 0 ∧ lo ≠ inf false ∧ hi ≠ inf true := by
  simp [mayI]
  grind
theorem mayI_noneI : mayI noneI = true := by decide
theorem mayI_fairI (x : Iv) : mayI (fairI x) = true := by
  unfold fairI
  split
  · assumption
  · exact mayI_noneI
theorem fairI_may {x : Iv} (h : mayI x = true) : fairI x = x := if_pos h
theorem fairI_fairI (x : Iv) : fairI (fairI x) = fairI x := fairI_may (mayI_fairI x)
theorem mayI_none {x : Iv} (h : mayI x = true) (h1 : x.1 = true) : x = noneI := by
  simp only [mayI, h1, if_true, decide_eq_true_eq] at h
  exact h
theorem mayI_full {x : Iv} (h : mayI x = true) (h1 : x.1 = false) : x = (false, x.2.1, x.2.2) ∧ may x.2.1 = true ∧ may x.2.2 = true ∧ cmp x.2.1 x.2.2 ≤ 0 ∧ x.2.1 ≠ inf false ∧ x.2.2 ≠ inf true := by
  obtain ⟨e, lo, hi⟩ := x
  simp only at h1
  subst h1
  exact ⟨rfl, mayI_iff.1 h⟩
theorem mkI_may {lo hi : Nm} (h1 : cmp lo hi ≤ 0) (h2 : fair lo ≠ inf false) (h3 : fair hi ≠ inf true) : mkI lo hi = (false, fair lo, fair hi) := by
  unfold mkI
  rw [fairI_may]
  rw [mayI_iff]
  exact ⟨may_fair _, may_fair _, by rw [cmp_fair_l, cmp_fair_r]; exact h1, h2, h3⟩
theorem mayI_mkI (lo hi : Nm) : mayI (mkI lo hi) = true := mayI_fairI _
theorem mkI_cases (lo hi : Nm) : mkI lo hi = noneI ∨ (mkI lo hi = (false, fair lo, fair hi) ∧ cmp lo hi ≤ 0 ∧ fair lo ≠ inf false ∧ fair hi ≠ inf true) := by
  unfold mkI fairI
  split
  · rename_i h
    rw [mayI_iff, cmp_fair_l, cmp_fair_r] at h
    exact .inr ⟨rfl, h.2.2⟩
  · exact .inl rfl
theorem mkI_point (n : Nm) : mkI n n = if (fair n).1 = 2 then noneI else (false, fair n, fair n) := by
  split
  · rename_i h
    have := fair_inf h
    rcases mkI_cases n n with e | ⟨_, _, h2, h3⟩
    · exact e
    · cases hb : (fair n).2.1 <;> rw [hb] at this
      · exact absurd this h2
      · exact absurd this h3
  · rename_i h
    exact mkI_may (by rw [cmp_self]; decide) (fun e => h (by rw [e])) (fun e => h (by rw [e]))
def hasR (x : Iv) (n : Nm) : Bool := !(fairI x).1 && (fair n).1 != 2 && decide (cmp (fairI x).2.1 n ≤ 0) && decide (cmp n (fairI x).2.2 ≤ 0)
theorem has_eq (x : Iv) (n : Nm) : has x n = hasR x n := by
  unfold has hasR
  rw [mkI_point]
  split
  · rename_i h; simp [h]
  · rename_i h
    have hm : fairI (false, fair n, fair n) = (false, fair n, fair n) := by
      have := mkI_point n
      rw [if_neg h] at this
      rw [← this, mkI, fairI_fairI]
    simp only [within, hm, Bool.not_false, Bool.true_and, Bool.false_or, cmp_fair_l, cmp_fair_r]
    have h' : ((fair n).1 != 2) = true := by simpa using h
    rw [h', Bool.and_true]
theorem cmp_inf (n : Nm) : cmp n (inf false) ≤ 0 := by
  rw [cmp_le]
  have h := may_cases (may_fair n)
  rw [fair_may (may_inf false)]
  generalize fair n = x at *
  obtain ⟨x1, x2, x3, x4⟩ := x
  simp only [tri, tlt, Prod.mk.injEq] at *
  cases x2 <;> simp at h ⊢ <;> grind
theorem cmp_inf' (n : Nm) : cmp (inf true) n ≤ 0 := by
  rw [cmp_le]
  have h := may_cases (may_fair n)
  rw [fair_may (may_inf true)]
  generalize fair n = x at *
  obtain ⟨x1, x2, x3, x4⟩ := x
  simp only [tri, tlt, Prod.mk.injEq] at *
  cases x2 <;> simp at h ⊢ <;> grind
/-- What the least of some is. -/
theorem least_fold (l : List Nm) : ∀ a, may a = true → (may (l.foldl (fun a n => if cmp n a < 0 then fair n else a) a) = true ∧ cmp (l.foldl (fun a n => if cmp n a < 0 then fair n else a) a) a ≤ 0 ∧
    (∀ n ∈ l, cmp (l.foldl (fun a n => if cmp n a < 0 then fair n else a) a) n ≤ 0) ∧ (l.foldl (fun a n => if cmp n a < 0 then fair n else a) a = a ∨ ∃ n ∈ l, l.foldl (fun a n => if cmp n a < 0 then fair n else a) a = fair n)) := by
  induction l with
  | nil => intro a h; simp [h, cmp_self]
  | cons x l ih =>
    intro a h
    rw [List.foldl_cons]
    by_cases hc : cmp x a < 0
    · rw [if_pos hc]
      obtain ⟨h1, h2, h3, h4⟩ := ih (fair x) (may_fair x)
      rw [cmp_fair_r] at h2
      refine ⟨h1, cmp_le_trans h2 (by omega), fun n hn => ?_, ?_⟩
      · rcases List.mem_cons.1 hn with e | hn
        · subst e; exact h2
        · exact h3 n hn
      · rcases h4 with h4 | ⟨n, hn, h4⟩
        · exact .inr ⟨x, List.mem_cons_self, h4⟩
        · exact .inr ⟨n, List.mem_cons_of_mem _ hn, h4⟩
    · rw [if_neg hc]
      obtain ⟨h1, h2, h3, h4⟩ := ih a h
      refine ⟨h1, h2, fun n hn => ?_, ?_⟩
      · rcases List.mem_cons.1 hn with e | hn
        · subst e; exact cmp_le_trans h2 (by have := cmp_swap n a; omega)
        · exact h3 n hn
      · rcases h4 with h4 | ⟨n, hn, h4⟩
        · exact .inl h4
        · exact .inr ⟨n, List.mem_cons_of_mem _ hn, h4⟩
theorem most_fold (l : List Nm) : ∀ a, may a = true → (may (l.foldl (fun a n => if cmp n a > 0 then fair n else a) a) = true ∧ cmp a (l.foldl (fun a n => if cmp n a > 0 then fair n else a) a) ≤ 0 ∧
    (∀ n ∈ l, cmp n (l.foldl (fun a n => if cmp n a > 0 then fair n else a) a) ≤ 0) ∧ (l.foldl (fun a n => if cmp n a > 0 then fair n else a) a = a ∨ ∃ n ∈ l, l.foldl (fun a n => if cmp n a > 0 then fair n else a) a = fair n)) := by
  induction l with
  | nil => intro a h; simp [h, cmp_self]
  | cons x l ih =>
    intro a h
    rw [List.foldl_cons]
    by_cases hc : cmp x a > 0
    · rw [if_pos hc]
      obtain ⟨h1, h2, h3, h4⟩ := ih (fair x) (may_fair x)
      rw [cmp_fair_l] at h2
      refine ⟨h1, cmp_le_trans (b := x) (by have := cmp_swap x a; omega) h2, fun n hn => ?_, ?_⟩
      · rcases List.mem_cons.1 hn with e | hn
        · subst e; exact h2
        · exact h3 n hn
      · rcases h4 with h4 | ⟨n, hn, h4⟩
        · exact .inr ⟨x, List.mem_cons_self, h4⟩
        · exact .inr ⟨n, List.mem_cons_of_mem _ hn, h4⟩
    · rw [if_neg hc]
      obtain ⟨h1, h2, h3, h4⟩ := ih a h
      refine ⟨h1, h2, fun n hn => ?_, ?_⟩
      · rcases List.mem_cons.1 hn with e | hn
        · subst e; exact cmp_le_trans (by omega) h2
        · exact h3 n hn
      · rcases h4 with h4 | ⟨n, hn, h4⟩
        · exact .inl h4
        · exact .inr ⟨n, List.mem_cons_of_mem _ hn, h4⟩
theorem least_may (l : List Nm) : may (least l) = true := (least_fold l _ (may_inf false)).1
theorem most_may (l : List Nm) : may (most l) = true := (most_fold l _ (may_inf true)).1
theorem least_le {l : List Nm} {n : Nm} (h : n ∈ l) : cmp (least l) n ≤ 0 := (least_fold l _ (may_inf false)).2.2.1 n h
theorem most_ge {l : List Nm} {n : Nm} (h : n ∈ l) : cmp n (most l) ≤ 0 := (most_fold l _ (may_inf true)).2.2.1 n h
theorem least_mem (l : List Nm) : least l = inf false ∨ ∃ n ∈ l, least l = fair n := (least_fold l _ (may_inf false)).2.2.2
theorem most_mem (l : List Nm) : most l = inf true ∨ ∃ n ∈ l, most l = fair n := (most_fold l _ (may_inf true)).2.2.2
theorem le_least {l : List Nm} {x : Nm} (h : ∀ n ∈ l, cmp x n ≤ 0) : cmp x (least l) ≤ 0 := by
  rcases least_mem l with e | ⟨n, hn, e⟩
  · rw [e]; exact cmp_inf x
  · rw [e, cmp_fair_r]; exact h n hn
theorem most_le {l : List Nm} {x : Nm} (h : ∀ n ∈ l, cmp n x ≤ 0) : cmp (most l) x ≤ 0 := by
  rcases most_mem l with e | ⟨n, hn, e⟩
  · rw [e]; exact cmp_inf' x
  · rw [e, cmp_fair_l]; exact h n hn
theorem least_congr {l l' : List Nm} (h : ∀ x, x ∈ l ↔ x ∈ l') : least l = least l' := by
  have := cmp_anti (le_least (l := l') (x := least l) fun n hn => least_le ((h n).2 hn)) (le_least (l := l) (x := least l') fun n hn => least_le ((h n).1 hn))
  rwa [fair_may (least_may l), fair_may (least_may l')] at this
theorem most_congr {l l' : List Nm} (h : ∀ x, x ∈ l ↔ x ∈ l') : most l = most l' := by
  have := cmp_anti (most_le (l := l) (x := most l') fun n hn => most_ge ((h n).1 hn)) (most_le (l := l') (x := most l) fun n hn => most_ge ((h n).2 hn))
  rwa [fair_may (most_may l), fair_may (most_may l')] at this
theorem mem_losOf {l : List Iv} {n : Nm} : n ∈ losOf l ↔ ∃ x ∈ l, (fairI x).1 = false ∧ (fairI x).2.1 = n := by simp [losOf, and_assoc]
theorem mem_hisOf {l : List Iv} {n : Nm} : n ∈ hisOf l ↔ ∃ x ∈ l, (fairI x).1 = false ∧ (fairI x).2.2 = n := by simp [hisOf, and_assoc]
theorem losOf_nil {l : List Iv} : losOf l = [] ↔ ∀ x ∈ l, (fairI x).1 = true := by simp [losOf]
theorem hull_congr {l l' : List Iv} (h : ∀ x, x ∈ l ↔ x ∈ l') : hull l = hull l' := by
  have h1 : ∀ n, n ∈ losOf l ↔ n ∈ losOf l' := fun n => by simp only [mem_losOf, h]
  have h2 : ∀ n, n ∈ hisOf l ↔ n ∈ hisOf l' := fun n => by simp only [mem_hisOf, h]
  have h3 : losOf l = [] ↔ losOf l' = [] := by simp only [losOf_nil, h]
  unfold hull
  rw [least_congr h1, most_congr h2]
  simp only [h3]
theorem fair_low {x : Iv} (h : (fairI x).1 = false) : may (fairI x).2.1 = true ∧ may (fairI x).2.2 = true ∧ cmp (fairI x).2.1 (fairI x).2.2 ≤ 0 ∧ (fairI x).2.1 ≠ inf false ∧ (fairI x).2.2 ≠ inf true ∧ fairI x = (false, (fairI x).2.1, (fairI x).2.2) :=
  let ⟨a, b⟩ := mayI_full (mayI_fairI x) h
  ⟨b.1, b.2.1, b.2.2.1, b.2.2.2.1, b.2.2.2.2, a⟩
theorem ne_inf_of_le {a b : Nm} (ha : may a = true) (hb : may b = true) (h : cmp a b ≤ 0) (h1 : b ≠ inf false) : a ≠ inf false := by
  rintro rfl
  have := cmp_anti h (cmp_inf b)
  rw [fair_may ha, fair_may hb] at this
  exact h1 this.symm
theorem ne_inf_of_ge {a b : Nm} (ha : may a = true) (hb : may b = true) (h : cmp a b ≤ 0) (h1 : a ≠ inf true) : b ≠ inf true := by
  rintro rfl
  have := cmp_anti h (cmp_inf' a)
  rw [fair_may ha, fair_may hb] at this
  exact h1 this
/-- The hull of some that are not all empty. -/
theorem hull_full {l : List Iv} (h : losOf l ≠ []) : hull l = (false, least (losOf l), most (hisOf l)) ∧ mayI (hull l) = true := by
  obtain ⟨n, hn⟩ := List.exists_mem_of_ne_nil _ h
  obtain ⟨x, hx, h1, h2⟩ := mem_losOf.1 hn
  have hh : (fairI x).2.2 ∈ hisOf l := mem_hisOf.2 ⟨x, hx, h1, rfl⟩
  have hlo : (fairI x).2.1 ∈ losOf l := mem_losOf.2 ⟨x, hx, h1, rfl⟩
  obtain ⟨g1, g2, g3, g4, g5, _⟩ := fair_low h1
  have e : hull l = (false, least (losOf l), most (hisOf l)) := by
    unfold hull
    rw [if_neg h, mkI_may (cmp_le_trans (least_le hlo) (cmp_le_trans g3 (most_ge hh))), fair_may (least_may _), fair_may (most_may _)]
    · rw [fair_may (least_may _)]; exact ne_inf_of_le (least_may _) g1 (least_le hlo) g4
    · rw [fair_may (most_may _)]; exact ne_inf_of_ge g2 (most_may _) (most_ge hh) g5
  refine ⟨e, ?_⟩
  unfold hull
  rw [if_neg h]
  exact mayI_mkI _ _
theorem mayI_hull (l : List Iv) : mayI (hull l) = true := by
  by_cases h : losOf l = []
  · unfold hull; rw [if_pos h]; exact mayI_noneI
  · exact (hull_full h).2
theorem losOf_append (l l' : List Iv) : losOf (l ++ l') = losOf l ++ losOf l' := by simp [losOf]
theorem hisOf_append (l l' : List Iv) : hisOf (l ++ l') = hisOf l ++ hisOf l' := by simp [hisOf]
theorem hisOf_nil {l : List Iv} : hisOf l = [] ↔ losOf l = [] := by simp [hisOf, losOf]
theorem least_one {n : Nm} (h : may n = true) : least [n] = n := by
  rcases least_mem [n] with e | ⟨m, hm, e⟩
  · have := cmp_anti (cmp_inf n) (by rw [← e]; exact least_le List.mem_cons_self)
    rw [fair_may h, fair_may (may_inf false)] at this
    rw [e, this]
  · rw [List.mem_singleton] at hm
    rw [e, hm, fair_may h]
theorem most_one {n : Nm} (h : may n = true) : most [n] = n := by
  rcases most_mem [n] with e | ⟨m, hm, e⟩
  · have := cmp_anti (by rw [← e]; exact most_ge List.mem_cons_self) (cmp_inf' n)
    rw [fair_may h, fair_may (may_inf true)] at this
    rw [e, this]
  · rw [List.mem_singleton] at hm
    rw [e, hm, fair_may h]
theorem least_append (l : List Nm) (n : Nm) : least (l ++ [n]) = least [least l, n] := by
  have h := cmp_anti (a := least (l ++ [n])) (b := least [least l, n])
    (le_least fun m hm => by
      simp only [List.mem_cons, List.not_mem_nil, or_false] at hm
      rcases hm with rfl | rfl
      · exact le_least fun a ha => least_le (by simp [ha])
      · exact least_le (by simp))
    (le_least fun m hm => by
      simp only [List.mem_append, List.mem_cons, List.not_mem_nil, or_false] at hm
      rcases hm with hm | rfl
      · exact cmp_le_trans (least_le (by simp)) (least_le hm)
      · exact least_le (by simp))
  rwa [fair_may (least_may _), fair_may (least_may _)] at h
theorem most_append (l : List Nm) (n : Nm) : most (l ++ [n]) = most [most l, n] := by
  have h := cmp_anti (a := most (l ++ [n])) (b := most [most l, n])
    (most_le fun m hm => by
      simp only [List.mem_append, List.mem_cons, List.not_mem_nil, or_false] at hm
      rcases hm with hm | rfl
      · exact cmp_le_trans (most_ge hm) (most_ge (by simp))
      · exact most_ge (by simp))
    (most_le fun m hm => by
      simp only [List.mem_cons, List.not_mem_nil, or_false] at hm
      rcases hm with rfl | rfl
      · exact most_le fun a ha => most_ge (by simp [ha])
      · exact most_ge (by simp))
  rwa [fair_may (most_may _), fair_may (most_may _)] at h
theorem hull_append (l : List Iv) (x : Iv) : hull (l ++ [x]) = both (hull l) x := by
  by_cases h : losOf l = []
  · have h0 : hull l = noneI := if_pos h
    have h1 : hisOf l = [] := hisOf_nil.2 h
    unfold both
    rw [h0, fairI_may mayI_noneI, if_pos rfl]
    unfold hull
    rw [losOf_append, hisOf_append, h, h1]
    simp only [List.nil_append, losOf_cons, hisOf_cons]
    cases hx : (fairI x).1
    · obtain ⟨g1, g2, g3, g4, g5, g6⟩ := fair_low hx
      simp only [losOf, hisOf]
      simp only [List.filter_nil, List.map_nil, Bool.false_eq_true, if_false]
      rw [if_neg (by simp), least_one g1, most_one g2, mkI_may g3 (by rwa [fair_may g1]) (by rwa [fair_may g2]), fair_may g1, fair_may g2]
      exact g6.symm
    · rw [mayI_none (mayI_fairI x) hx]
      simp [losOf]
  · obtain ⟨e, hm⟩ := hull_full h
    unfold both
    rw [fairI_may hm, e, if_neg (show ¬ (false = true) by decide)]
    cases hx : (fairI x).1
    · rw [if_neg (by decide)]
      conv => lhs; unfold hull
      rw [losOf_append, hisOf_append]
      simp only [losOf_cons, hisOf_cons, hx]
      simp only [losOf, hisOf, List.filter_nil, List.map_nil, Bool.false_eq_true, if_false]
      rw [if_neg (by simp), least_append, most_append]
    · rw [if_pos rfl, ← e]
      conv => lhs; unfold hull
      rw [losOf_append, hisOf_append]
      simp only [losOf_cons, hisOf_cons, hx]
      simp only [losOf, hisOf, List.filter_nil, List.map_nil, if_true, List.append_nil]
      rfl
theorem both_hull (a b : Iv) : both a b = hull [a, b] := by
  have e : hull [a, b] = both (hull [a]) b := hull_append [a] b
  have e1 : hull [a] = both (hull []) a := hull_append [] a
  have e2 : hull [] = noneI := rfl
  have e3 : both noneI a = fairI a := by unfold both; rw [fairI_may mayI_noneI, if_pos rfl]
  rw [e, e1, e2, e3]
  unfold both
  rw [fairI_fairI]
theorem hull_foldl (l s : List Iv) : s.foldl both (hull l) = hull (l ++ s) := by
  induction s generalizing l with
  | nil => simp
  | cons x s ih => rw [List.foldl_cons, ← hull_append, ih]; simp
/-! ### tubes: what they are, and what they have at a time -/
theorem wrap_pred {n : Nat} (h : n ≤ 1000000000) : IntKind.i64.wrap (((n + 1 : Nat) : Int) - 1) = (n : Int) := by
  rw [wrap_small (by omega) (by omega)]; omega
theorem cond_t {α : Type} {p : Prop} [Decidable p] (h : p) (a b : α) : cond (decide p) a b = a := by rw [decide_eq_true h]; rfl
theorem cond_f {α : Type} {p : Prop} [Decidable p] (h : ¬ p) (a b : α) : cond (decide p) a b = b := by rw [decide_eq_false h]; rfl
theorem beq_t {a b : Int} (h : a = b) : (a == b) = true := by simpa using h
theorem beq_f {a b : Int} (h : ¬ a = b) : (a == b) = false := by simpa using h
theorem len_lt {α : Type} (pre : List α) (x : α) (suf : List α) : (pre.length : Int) < ((pre ++ x :: suf).length : Int) := by simp; omega
theorem len_ge {α : Type} (pre : List α) : ¬ (pre.length : Int) < ((pre ++ []).length : Int) := by simp
theorem mid_eq {α : Type} (pre : List α) (x : α) (suf : List α) : (pre ++ [x]) ++ suf = pre ++ x :: suf := by simp
theorem len_snoc {α : Type} (pre : List α) (x : α) : (pre ++ [x]).length = pre.length + 1 := by simp

def finite (n : Nm) : Bool := may n && n.1 != 2
def okS : Nm → List Sl → Bool
  | _, [] => true
  | last, s :: r => finite s.1 && decide (cmp s.1 last > 0) && mayI s.2.1 && mayI s.2.2 && okS s.1 r
def mayT (t : Tb) : Bool := finite t.1 && mayI t.2.1 && decide (t.2.2.length ≤ 64) && okS t.1 t.2.2
def emptyT (t : Tb) : Bool := t.2.1.1 || t.2.2.any (fun s => s.2.1.1 || s.2.2.1)

theorem tube_finite_eq (k : Nat) (n : Nm) : tube_finite k n = some (finite n, ()) := by
  simp only [tube_finite, num_May_eq, Option.bind_some, finite]
  cases may n <;> rfl
theorem rwhen_eq (k : Nat) (n : Nm) : pelorusref17_when k n = some (finite n, ()) := by
  simp only [pelorusref17_when, rnum_May_eq, Option.bind_some, finite]
  cases may n <;> rfl
theorem may_loop (k : Nat) : ∀ (s pre : List Sl) (m : Nat) (last : Nm), s.length < m → pre.length + s.length ≤ 1000000 →
    tube_May_l0 k m (((), pre ++ s, ((pre ++ s).length : Int), (pre.length : Int), ()), (last, ())) = some (bif okS last s then Sum.inr (Sum.inl ((), ())) else Sum.inl ((false, ()), ()))
  | [], pre, m + 1, last, hm, hl => by simp [tube_May_l0, okS]
  | x :: s, pre, m + 1, last, hm, hl => by
    simp only [List.length_cons] at hm hl
    have ih := may_loop k s (pre ++ [x]) m x.1 (by omega) (by simp; omega)
    simp only [tube_May_l0, cond_t (len_lt pre x s), if_pos (Int.natCast_nonneg pre.length), at_mid, Option.bind_some, tube_finite_eq, num_Cmp_eq, iv_May_eq, wrap_succ (show pre.length ≤ 1000000000 by omega)]
    rw [mid_eq, len_snoc] at ih
    rw [ih]
    simp only [okS]
    by_cases hc : cmp x.1 last ≤ 0
    · have hc' : ¬ cmp x.1 last > 0 := by omega
      cases finite x.1 <;> simp [hc, hc']
    · have hc' : cmp x.1 last > 0 := by omega
      cases finite x.1 <;> cases mayI x.2.1 <;> cases mayI x.2.2 <;> simp [hc, hc']
theorem tube_May_eq (k : Nat) (hk : 100 ≤ k) (t : Tb) : tube_May k t = some (mayT t, ()) := by
  simp only [tube_May, tube_finite_eq, iv_May_eq, Option.bind_some, mayT]
  by_cases hl : t.2.2.length ≤ 64
  · have hl' : ¬ (t.2.2.length : Int) > 64 := by omega
    have h := may_loop k t.2.2 [] k t.1 (by omega) (by simp; omega)
    simp only [List.nil_append, List.length_nil] at h
    rw [show ((0 : Nat) : Int) = 0 from rfl] at h
    rw [cond_f hl', h]
    cases finite t.1 <;> cases mayI t.2.1 <;> cases okS t.1 t.2.2 <;> simp [hl]
  · have hl' : (t.2.2.length : Int) > 64 := by omega
    rw [cond_t hl']
    cases finite t.1 <;> cases mayI t.2.1 <;> simp [hl]
theorem rmay_loop (k : Nat) (st : Nm) (inn : Iv) : ∀ (s pre : List Sl) (m : Nat) (last : Nm), s.length < m → pre.length + s.length ≤ 1000000 →
    pelorusref17_May_l0 k m (((), (), (pre.length : Int), ()), ((st, inn, pre ++ s), last, ())) = some (bif okS last s then Sum.inr (Sum.inl ((), ())) else Sum.inl ((false, ()), ()))
  | [], pre, m + 1, last, hm, hl => by simp [pelorusref17_May_l0, okS]
  | x :: s, pre, m + 1, last, hm, hl => by
    simp only [List.length_cons] at hm hl
    have ih := rmay_loop k st inn s (pre ++ [x]) m x.1 (by omega) (by simp; omega)
    simp only [pelorusref17_May_l0, cond_t (len_lt pre x s), if_pos (Int.natCast_nonneg pre.length), at_mid, Option.bind_some, rwhen_eq, rnum_Cmp_eq, rMayI_eq, wrap_succ (show pre.length ≤ 1000000000 by omega)]
    rw [mid_eq, len_snoc] at ih
    rw [ih]
    simp only [okS]
    by_cases hc : cmp x.1 last ≤ 0
    · have hc' : ¬ cmp x.1 last > 0 := by omega
      cases finite x.1 <;> cases mayI x.2.1 <;> cases mayI x.2.2 <;> simp [hc, hc']
    · have hc' : cmp x.1 last > 0 := by omega
      cases finite x.1 <;> cases mayI x.2.1 <;> cases mayI x.2.2 <;> simp [hc, hc']
theorem rMayT_eq (k : Nat) (hk : 100 ≤ k) (t : Tb) : pelorusref17_May k t = some (mayT t, ()) := by
  simp only [pelorusref17_May, rwhen_eq, rMayI_eq, Option.bind_some, mayT]
  by_cases hl : t.2.2.length ≤ 64
  · have hl' : ¬ (t.2.2.length : Int) > 64 := by omega
    have h := rmay_loop k t.1 t.2.1 t.2.2 [] k t.1 (by omega) (by simp; omega)
    simp only [List.nil_append, List.length_nil] at h
    rw [show ((0 : Nat) : Int) = 0 from rfl] at h
    rw [cond_f hl', h]
    cases finite t.1 <;> cases mayI t.2.1 <;> cases okS t.1 t.2.2 <;> simp [hl]
  · have hl' : (t.2.2.length : Int) > 64 := by omega
    rw [cond_t hl']
    cases finite t.1 <;> cases mayI t.2.1 <;> simp [hl]
theorem mayT_len {t : Tb} (h : mayT t = true) : t.2.2.length ≤ 64 := by
  simp only [mayT, Bool.and_eq_true, decide_eq_true_eq] at h; exact h.1.2

/-! empty -/
theorem empty_loop (k : Nat) : ∀ (s pre : List Sl) (m : Nat), s.length < m → pre.length + s.length ≤ 1000000 → ∃ i : Nat,
    tube_Empty_l0 k m ((false, pre ++ s, (), ((pre ++ s).length : Int), (pre.length : Int), ()), ()) = some (bif s.any (fun s => s.2.1.1 || s.2.2.1) then Sum.inl ((false, (i : Int), ()), ()) else Sum.inr (Sum.inl ((false, ()), ())))
  | [], pre, m + 1, hm, hl => ⟨0, by simp [tube_Empty_l0]⟩
  | x :: s, pre, m + 1, hm, hl => by
    simp only [List.length_cons] at hm hl
    obtain ⟨i, ih⟩ := empty_loop k s (pre ++ [x]) m (by omega) (by simp; omega)
    rw [mid_eq, len_snoc] at ih
    by_cases hx : (x.2.1.1 || x.2.2.1) = true
    · refine ⟨pre.length, ?_⟩
      simp only [tube_Empty_l0, cond_t (len_lt pre x s), if_pos (Int.natCast_nonneg pre.length), at_mid, Option.bind_some, tube_Empty_1, List.any_cons, hx, Bool.true_or, cond_true]
      cases h1 : x.2.1.1
      · rw [h1, Bool.false_or] at hx
        simp [hx]
      · simp
    · refine ⟨i, ?_⟩
      simp only [tube_Empty_l0, cond_t (len_lt pre x s), if_pos (Int.natCast_nonneg pre.length), at_mid, Option.bind_some, tube_Empty_1, List.any_cons, wrap_succ (show pre.length ≤ 1000000000 by omega)]
      rw [ih]
      simp only [Bool.or_eq_true, not_or, Bool.not_eq_true] at hx
      simp [hx.1, hx.2]
theorem tube_Empty_eq (k : Nat) (hk : 100 ≤ k) (t : Tb) : tube_Empty k t = some (!mayT t || emptyT t, ()) := by
  simp only [tube_Empty, tube_May_eq k hk, Option.bind_some]
  cases hm : mayT t
  · simp
  · have hl := mayT_len hm
    obtain ⟨i, h⟩ := empty_loop k t.2.2 [] k (by omega) (by simp; omega)
    simp only [List.nil_append, List.length_nil] at h
    rw [show ((0 : Nat) : Int) = 0 from rfl] at h
    simp only [Bool.not_true, cond_false]
    rw [h]
    simp only [emptyT]
    cases t.2.1.1
    · cases t.2.2.any (fun s => s.2.1.1 || s.2.2.1) <;> simp
    · simp
theorem rempty_loop (k : Nat) (st : Nm) (inn : Iv) : ∀ (s pre : List Sl) (m : Nat), s.length < m → pre.length + s.length ≤ 1000000 →
    pelorusref17_empty_l0 k m (((), (pre.length : Int), ()), ((st, inn, pre ++ s), ())) = some (bif s.any (fun s => s.2.1.1 || s.2.2.1) then Sum.inl ((true, ()), ()) else Sum.inr (Sum.inl ((), ())))
  | [], pre, m + 1, hm, hl => by simp [pelorusref17_empty_l0]
  | x :: s, pre, m + 1, hm, hl => by
    simp only [List.length_cons] at hm hl
    have ih := rempty_loop k st inn s (pre ++ [x]) m (by omega) (by simp; omega)
    rw [mid_eq, len_snoc] at ih
    simp only [pelorusref17_empty_l0, cond_t (len_lt pre x s), if_pos (Int.natCast_nonneg pre.length), at_mid, Option.bind_some, List.any_cons, wrap_succ (show pre.length ≤ 1000000000 by omega)]
    rw [ih]
    cases x.2.1.1 <;> cases x.2.2.1 <;> simp
theorem rempty_eq (k : Nat) (t : Tb) (h : t.2.2.length < k) (hl : t.2.2.length ≤ 1000000) : pelorusref17_empty k t = some (emptyT t, ()) := by
  have h := rempty_loop k t.1 t.2.1 t.2.2 [] k h (by simp; omega)
  simp only [List.nil_append, List.length_nil] at h
  rw [show ((0 : Nat) : Int) = 0 from rfl] at h
  simp only [pelorusref17_empty]
  rw [h]
  simp only [emptyT]
  cases t.2.1.1
  · cases t.2.2.any (fun s => s.2.1.1 || s.2.2.1) <;> simp
  · simp
/-! gates -/
def wn (st : Nm) (pre : List Sl) : Nm := match pre.getLast? with | none => st | some p => p.1
theorem wn_nil (st : Nm) : wn st [] = st := rfl
theorem wn_snoc (st : Nm) (pre : List Sl) (p : Sl) : wn st (pre ++ [p]) = p.1 := by simp [wn]
def hd (g : Nm × Iv) (pre : List Sl) : Nm × Iv := match pre.getLast? with | none => g | some p => (p.1, two p.2.2 p.2.1)
theorem hd_nil (g : Nm × Iv) : hd g [] = g := rfl
theorem hd_snoc (g : Nm × Iv) (pre : List Sl) (p : Sl) : hd g (pre ++ [p]) = (p.1, two p.2.2 p.2.1) := by simp [hd]
theorem hd_fst (g : Nm × Iv) (pre : List Sl) : (hd g pre).1 = wn g.1 pre := by
  unfold hd wn; cases pre.getLast? <;> rfl
def nx (x : Iv) : List Sl → Iv
  | [] => x
  | s :: _ => two x s.2.1
/-- The gates, and what each has, met with the slices at it. -/
def gatesL (h : Nm × Iv) : List Sl → List (Nm × Iv)
  | [] => [(h.1, h.2)]
  | s :: r => (h.1, two h.2 s.2.1) :: gatesL (s.1, two s.2.2 s.2.1) r
@[simp] def tailG : List Sl → List (Nm × Iv)
  | [] => []
  | s :: r => gatesL (s.1, two s.2.2 s.2.1) r
theorem gatesL_eq (h : Nm × Iv) (l : List Sl) : gatesL h l = (h.1, nx h.2 l) :: tailG l := by cases l <;> rfl
theorem tube_end_eq (k : Nat) (t : Tb) (h : t.2.2.length ≤ 1000000) : tube_end k t = some (wn t.1 t.2.2, ()) := by
  obtain ⟨st, inn, l⟩ := t
  simp only [tube_end]
  rcases List.eq_nil_or_concat l with rfl | ⟨pre, p, rfl⟩
  · simp [wn]
  · simp only [List.concat_eq_append] at h ⊢
    rw [wn_snoc, len_snoc]
    have h1 : ((pre.length + 1 : Nat) : Int) > 0 := by omega
    rw [len_snoc] at h
    simp only [cond_t h1, wrap_pred (show pre.length ≤ 1000000000 by omega), if_pos (Int.natCast_nonneg pre.length), at_mid, Option.bind_some]
theorem rWhen_eq (k : Nat) (st : Nm) (inn : Iv) (pre s : List Sl) (h : pre.length ≤ 1000000) : pelorusref17_When k (st, inn, pre ++ s) (pre.length : Int) = some (wn st pre, ()) := by
  simp only [pelorusref17_When]
  rcases List.eq_nil_or_concat pre with rfl | ⟨pre, p, rfl⟩
  · simp [wn]
  · simp only [List.concat_eq_append] at h ⊢
    rw [wn_snoc, len_snoc, mid_eq]
    rw [len_snoc] at h
    have h1 : ¬ ((pre.length + 1 : Nat) : Int) = 0 := by omega
    simp only [wrap_pred (show pre.length ≤ 1000000000 by omega), if_pos (Int.natCast_nonneg pre.length), at_mid, Option.bind_some]
    rw [cond_eq_ite, if_neg (by simpa using h1)]
theorem rgate_eq (k : Nat) (hk : 3 ≤ k) (st : Nm) (inn : Iv) (pre s : List Sl) (h : pre.length ≤ 1000000) : pelorusref17_gate k (st, inn, pre ++ s) (pre.length : Int) = some (nx (hd (st, inn) pre).2 s, ()) := by
  simp only [pelorusref17_gate]
  rcases List.eq_nil_or_concat pre with rfl | ⟨pre, p, rfl⟩
  · rw [hd_nil]
    cases s with
    | nil => simp [nx]
    | cons x s =>
      simp [nx, rTwo_eq k _ _ hk]
  · simp only [List.concat_eq_append] at h ⊢
    rw [hd_snoc, len_snoc, mid_eq]
    rw [len_snoc] at h
    have h1 : ((pre.length + 1 : Nat) : Int) > 0 := by omega
    simp only [cond_t h1, wrap_pred (show pre.length ≤ 1000000000 by omega), if_pos (Int.natCast_nonneg pre.length), at_mid, Option.bind_some, rTwo_eq k _ _ hk]
    cases s with
    | nil =>
      have h2 : ¬ ((pre.length + 1 : Nat) : Int) < ((pre ++ [p]).length : Int) := by simp
      rw [cond_f h2]; rfl
    | cons x s =>
      have h2 : ((pre.length + 1 : Nat) : Int) < ((pre ++ p :: x :: s).length : Int) := by simp; omega
      have h3 : (pre ++ p :: x :: s)[Int.toNat ((pre.length + 1 : Nat) : Int)]? = some x := by
        rw [Int.toNat_natCast, List.getElem?_append_right (by omega)]; simp
      rw [cond_t h2, if_pos (Int.natCast_nonneg _), h3]; rfl
/-! ### what there is at a time -/
def findG (n : Nm) (l : List (Nm × Iv)) : Option (Nm × Iv) := l.find? (fun h => decide (cmp n h.1 = 0))
theorem findG_cons (n : Nm) (h : Nm × Iv) (l : List (Nm × Iv)) : findG n (h :: l) = if cmp n h.1 = 0 then some h else findG n l := by
  unfold findG
  rw [List.find?_cons]
  by_cases hc : cmp n h.1 = 0 <;> simp [hc]
def scanR (n : Nm) : Nm → List Sl → Option Iv
  | _, [] => none
  | w, s :: r => if cmp w n < 0 ∧ cmp n s.1 < 0 then some s.2.1 else scanR n s.1 r
def atL (n : Nm) (t : Tb) : Iv := match findG n (gatesL (t.1, t.2.1) t.2.2) with
  | some h => h.2
  | none => (scanR n t.1 t.2.2).getD allI
def atT (t : Tb) (n : Nm) : Iv := if mayT t then atL n t else noneI

theorem scan_found (n : Nm) : ∀ (w : Nm) (l : List Sl) (x : Iv), okS w l = true → findG n (gatesL (w, x) l) = none →
    scanR n w l = match l.find? (fun s => decide (cmp n s.1 < 0)) with | none => none | some s => if cmp n w < 0 then none else some s.2.1
  | w, [], x, h, hg => rfl
  | w, s :: l, x, h, hg => by
    simp only [okS, Bool.and_eq_true, decide_eq_true_eq] at h
    obtain ⟨⟨⟨⟨_, h2⟩, _⟩, _⟩, h5⟩ := h
    rw [gatesL, findG_cons] at hg
    split at hg
    · cases hg
    rename_i hne
    have ih := scan_found n s.1 l _ h5 hg
    have hs : cmp n s.1 ≠ 0 := by
      rw [gatesL_eq, findG_cons] at hg
      intro e
      rw [if_pos e] at hg; cases hg
    have e1 := cmp_swap n s.1
    have e2 := cmp_swap n w
    have e3 := cmp_swap s.1 w
    rw [scanR, ih, List.find?_cons]
    simp only at hne
    by_cases hw : cmp n w < 0
    · have h4 : cmp n s.1 < 0 := cmp_lt_of_lt_le hw (by omega)
      have h6 : ¬ cmp w n < 0 := by omega
      simp only [h4, h6, hw, decide_true, false_and, if_false, if_true]
      cases l.find? (fun s => decide (cmp n s.1 < 0)) <;> rfl
    · have h6 : cmp w n < 0 := by omega
      by_cases h4 : cmp n s.1 < 0
      · simp only [h4, h6, hw, decide_true, and_self, if_true, if_false]
      · simp only [h4, hw, decide_false, and_false, if_false]
/-! ### the document's At, Over; Over -/
/-! over an interval -/
def gIn (x : Iv) (l : List (Nm × Iv)) : List Iv := (l.filter (fun h => has x h.1)).map (·.2)
def sIn (x : Iv) : Nm → List Sl → List Iv
  | _, [] => []
  | w, s :: r => if cmp x.2.1 s.1 < 0 ∧ cmp w x.2.2 < 0 ∧ cmp x.2.1 x.2.2 < 0 then s.2.1 :: sIn x s.1 r else sIn x s.1 r
def overT (t : Tb) (x : Iv) : Iv :=
  if mayT t && !x.1 && mayI x then
    if cmp x.2.1 t.1 < 0 ∨ cmp x.2.2 (wn t.1 t.2.2) > 0 then allI
    else hull ([atT t x.2.1, atT t x.2.2] ++ sIn x t.1 t.2.2 ++ gIn x (gatesL (t.1, t.2.1) t.2.2))
  else noneI
/-! ### over an interval: the program's own -/
def ovL (x : Iv) (w : Nm) (h : Nm × Iv) (al : Option Iv) : List Sl → List Iv
  | [] => (if has x h.1 then [h.2] else []) ++ (match al with | some a => if cmp x.2.1 x.2.2 < 0 ∧ cmp x.2.1 h.1 < 0 ∧ cmp w x.2.2 < 0 then [a] else [] | none => [])
  | s :: r => (if has x h.1 then [two h.2 s.2.1] else []) ++ (match al with | some a => if cmp x.2.1 x.2.2 < 0 ∧ cmp x.2.1 h.1 < 0 ∧ cmp w x.2.2 < 0 then [a] else [] | none => []) ++ ovL x h.1 (s.1, two s.2.2 s.2.1) (some s.2.1) r
def tailO (x : Iv) (h : Nm × Iv) : List Sl → List Iv
  | [] => []
  | s :: r => ovL x h.1 (s.1, two s.2.2 s.2.1) (some s.2.1) r
theorem ovL_eq (x : Iv) (w : Nm) (h : Nm × Iv) (al : Option Iv) (s : List Sl) : ovL x w h al s = (if has x h.1 then [nx h.2 s] else []) ++ (match al with | some a => if cmp x.2.1 x.2.2 < 0 ∧ cmp x.2.1 h.1 < 0 ∧ cmp w x.2.2 < 0 then [a] else [] | none => []) ++ tailO x h s := by
  cases s
  · simp [ovL, tailO, nx]
  · simp [ovL, tailO, nx]
def lastAll (pre : List Sl) : Option Iv := pre.getLast?.map (·.2.1)

theorem mem_ovL (x : Iv) (a : Iv) : ∀ (s : List Sl) (w : Nm) (h : Nm × Iv) (al : Option Iv), a ∈ ovL x w h al s ↔ ((∃ b, al = some b ∧ a = b ∧ cmp x.2.1 x.2.2 < 0 ∧ cmp x.2.1 h.1 < 0 ∧ cmp w x.2.2 < 0) ∨ a ∈ sIn x h.1 s ∨ a ∈ gIn x (gatesL h s)) := by
  intro s
  induction s with
  | nil =>
    intro w h al
    simp only [ovL, sIn, gatesL, gIn, List.filter_cons, List.filter_nil]
    cases al with
    | none => cases has x h.1 <;> simp
    | some b =>
      by_cases hc : cmp x.2.1 x.2.2 < 0 ∧ cmp x.2.1 h.1 < 0 ∧ cmp w x.2.2 < 0
      · cases has x h.1 <;> simp [hc] <;> grind
      · cases has x h.1 <;> simp [hc] <;> grind
  | cons y r ih =>
    intro w h al
    simp only [ovL, sIn, gatesL, gIn, List.filter_cons, List.mem_append]
    rw [ih]
    simp only [gIn]
    cases al with
    | none =>
      by_cases hc : cmp x.2.1 y.1 < 0 ∧ cmp h.1 x.2.2 < 0 ∧ cmp x.2.1 x.2.2 < 0
      · cases has x h.1 <;> simp [hc] <;> grind
      · cases has x h.1 <;> simp [hc] <;> grind
    | some b =>
      by_cases hc : cmp x.2.1 y.1 < 0 ∧ cmp h.1 x.2.2 < 0 ∧ cmp x.2.1 x.2.2 < 0
      · by_cases hd : cmp x.2.1 x.2.2 < 0 ∧ cmp x.2.1 h.1 < 0 ∧ cmp w x.2.2 < 0
        · cases has x h.1 <;> simp [hc, hd] <;> grind
        · cases has x h.1 <;> simp [hc, hd] <;> grind
      · by_cases hd : cmp x.2.1 x.2.2 < 0 ∧ cmp x.2.1 h.1 < 0 ∧ cmp w x.2.2 < 0
        · cases has x h.1 <;> simp [hc, hd] <;> grind
        · cases has x h.1 <;> simp [hc, hd] <;> grind
/-! ### fitted tubes -/
def g2 (s : Sl) : Option Sl → Iv
  | none => two s.2.2 s.2.1
  | some s' => two (two s.2.2 s.2.1) s'.2.1
def fitN : List Sl → Option Sl → List Sl
  | [], _ => []
  | [s], nx => [(s.1, s.2.1, g2 s nx)]
  | s :: s' :: r, nx => (s.1, s.2.1, g2 s (some s')) :: fitN (s' :: r) nx
theorem fitN_cons (s : Sl) (r : List Sl) (n : Option Sl) : fitN (s :: r) n = (s.1, s.2.1, g2 s (r.head?.or n)) :: fitN r n := by cases r <;> rfl
theorem fitN_snoc (pre : List Sl) (p : Sl) (n : Option Sl) : fitN (pre ++ [p]) n = fitN pre (some p) ++ [(p.1, p.2.1, g2 p n)] := by
  induction pre with
  | nil => rfl
  | cons s r ih => rw [List.cons_append, fitN_cons, ih, fitN_cons]; cases r <;> rfl
theorem fitN_len (l : List Sl) (n : Option Sl) : (fitN l n).length = l.length := by
  induction l with
  | nil => rfl
  | cons s r ih => rw [fitN_cons]; simp [ih]
def voidS (s : Sl) : Sl := (s.1, noneI, noneI)
def fitU (t : Tb) : Tb := (t.1, nx t.2.1 t.2.2, fitN t.2.2 none)
def fitT (t : Tb) : Tb := if mayT t then (if emptyT (fitU t) then (t.1, noneI, t.2.2.map voidS) else fitU t) else t
theorem nx_g2 (p : Sl) (s : List Sl) : nx (two p.2.2 p.2.1) s = g2 p s.head? := by cases s <;> rfl

theorem mayI_two (a b : Iv) : mayI (two a b) = true := by
  unfold two
  split
  · exact mayI_noneI
  · exact mayI_mkI _ _
theorem mayI_g2 (s : Sl) (n : Option Sl) : mayI (g2 s n) = true := by cases n <;> exact mayI_two _ _
theorem mayI_nx {x : Iv} (h : mayI x = true) (l : List Sl) : mayI (nx x l) = true := by
  cases l
  · exact h
  · exact mayI_two _ _
theorem okS_fitN : ∀ (l : List Sl) (w : Nm) (n : Option Sl), okS w l = true → okS w (fitN l n) = true
  | [], _, _, _ => rfl
  | s :: r, w, n, h => by
    rw [fitN_cons]
    simp only [okS, Bool.and_eq_true] at h ⊢
    exact ⟨⟨h.1.1, mayI_g2 _ _⟩, okS_fitN r s.1 n h.2⟩
theorem mayT_fitU {t : Tb} (h : mayT t = true) : mayT (fitU t) = true := by
  simp only [mayT, Bool.and_eq_true, decide_eq_true_eq] at h ⊢
  exact ⟨⟨⟨h.1.1.1, mayI_nx h.1.1.2 _⟩, by simp only [fitU, fitN_len]; exact h.1.2⟩, okS_fitN _ _ _ h.2⟩

theorem set_mid {α : Type} (a : List α) (x y : α) (b : List α) (n : Nat) (h : a.length = n) : (a ++ x :: b).set (Int.toNat (n : Int)) y = a ++ y :: b := by
  subst h; simp
theorem get_mid {α : Type} (a : List α) (x : α) (b : List α) (n : Nat) (h : a.length = n) : (a ++ x :: b)[Int.toNat (n : Int)]? = some x := by
  subst h; simp

theorem fit_loop (k : Nat) (hk : 3 ≤ k) (D : Nm × Iv × List Sl) (st : Nm) (inn : Iv) : ∀ (m : Nat) (s pre : List Sl) (g : Nm × Iv) (I : Nm × Iv × Unit) (A : List Sl), s.length + 1 < m → pre.length + s.length ≤ 1000000 →
    (A = match pre.getLast? with | none => s | some p => fitN pre.dropLast (some p) ++ p :: s) → ∃ g', 
    tube_Fit_l0 k m (((), (), (), (), (), (((pre ++ s).length + 1 : Nat) : Int), (pre.length : Int), ()), (D, I, A, g, (st, inn, pre ++ s), ())) =
      some (Sum.inl (((), (), ()), (D, ((I.1, (if pre = [] then nx g.2 s else I.2.1), ()), g', ())))) ∧ g' = fitN (pre ++ s) none := by
  intro m
  induction m with
  | zero => intro s pre g I A hm; omega
  | succ m IH =>
    intro s pre g I A hm hl hA
    have hlt : (pre.length : Int) < (((pre ++ s).length + 1 : Nat) : Int) := by simp; omega
    have next : ∀ (g2' : Nm × Iv) (I2 : Nm × Iv × Unit) (A2 : List Sl), (s = [] → A2 = fitN pre none) → (∀ x r, s = x :: r → A2 = fitN pre (some x) ++ x :: r) → ∃ g', tube_Fit_l0 k m (((), (), (), (), (), (((pre ++ s).length + 1 : Nat) : Int), ((pre.length + 1 : Nat) : Int), ()), (D, I2, A2, g2', (st, inn, pre ++ s), ())) =
      some (Sum.inl (((), (), ()), (D, ((I2.1, I2.2.1, ()), g', ())))) ∧ g' = fitN (pre ++ s) none := by
      intro g2' I2 A2 h1 h2
      cases s with
      | nil =>
        cases m with
        | zero => simp at hm
        | succ m =>
          have h3 : ¬ ((pre.length + 1 : Nat) : Int) < (((pre ++ []).length + 1 : Nat) : Int) := by simp
          refine ⟨A2, ?_, by simpa using h1 rfl⟩
          simp only [tube_Fit_l0]
          rw [cond_f h3]
      | cons y r =>
        simp only [List.length_cons] at hm hl
        obtain ⟨g', ih, e⟩ := IH r (pre ++ [y]) g2' I2 A2 (by omega) (by simp; omega) (by simpa using h2 y r rfl)
        rw [mid_eq, len_snoc] at ih
        rw [mid_eq] at e
        exact ⟨g', by rw [ih]; simp, e⟩
    simp only [tube_Fit_l0]
    rw [cond_t hlt, wrap_succ (show pre.length ≤ 1000000000 by omega)]
    rcases List.eq_nil_or_concat pre with rfl | ⟨pre, p, rfl⟩
    · simp only [List.getLast?_nil] at hA
      subst hA
      have h0 : ¬ (([] : List Sl).length : Int) > 0 := by simp
      have h00 : ((([] : List Sl).length : Int) == 0) = true := rfl
      simp only [cond_f h0, h00, cond_true, if_true]
      cases A with
      | nil =>
        have h1 : ¬ (([] : List Sl).length : Int) < (([] ++ [] : List Sl).length : Int) := by simp
        simp only [cond_f h1, nx]
        exact next _ (I.1, g.2, ()) _ (fun _ => rfl) (fun _ _ h => by cases h)
      | cons y r =>
        have h1 : (([] : List Sl).length : Int) < (([] ++ y :: r : List Sl).length : Int) := by simp
        rw [cond_t h1, if_pos (Int.natCast_nonneg _), at_mid]
        simp only [Option.bind_some, nx, iv_Meet2 k _ _ hk]
        exact next _ (I.1, two g.2 y.2.1, ()) _ (fun h => by cases h) (fun x r h => by cases h; rfl)
    · simp only [List.concat_eq_append] at *
      rw [len_snoc] at hl
      simp only [List.getLast?_append, List.getLast?_singleton, Option.some_or, List.dropLast_concat] at hA
      subst hA
      have h0 : (((pre ++ [p]).length : Nat) : Int) > 0 := by simp
      have h00 : (((pre ++ [p]).length : Int) == 0) = false := by rw [len_snoc]; exact beq_f (by omega)
      have hne : ¬ (pre ++ [p] = []) := by simp
      have e1 : IntKind.i64.wrap (((pre ++ [p]).length : Int) - 1) = (pre.length : Int) := by rw [len_snoc]; exact wrap_pred (by omega)
      have e2 : (pre ++ [p] ++ s)[Int.toNat (pre.length : Int)]? = some p := by rw [mid_eq]; exact at_mid _ _ _
      simp only [cond_t h0, h00, cond_false, e1, e2, if_pos (Int.natCast_nonneg pre.length), Option.bind_some, iv_Meet2 k _ _ hk, get_mid _ p s _ (fitN_len pre (some p)), set_mid _ p _ s _ (fitN_len pre (some p)), hne, if_false]
      cases s with
      | nil =>
        have h1 : ¬ ((pre ++ [p]).length : Int) < ((pre ++ [p] ++ [] : List Sl).length : Int) := by simp
        simp only [cond_f h1]
        exact next _ (I.1, I.2.1, ()) _ (fun _ => by rw [fitN_snoc]; rfl) (fun _ _ h => by cases h)
      | cons y r =>
        have h1 : ((pre ++ [p]).length : Int) < ((pre ++ [p] ++ y :: r : List Sl).length : Int) := by simp; omega
        simp only [cond_t h1, if_pos (Int.natCast_nonneg (pre ++ [p]).length), at_mid, Option.bind_some]
        exact next _ (I.1, I.2.1, ()) _ (fun h => by cases h) (fun x r h => by cases h; rw [fitN_snoc]; simp [g2])
theorem void_loop (k : Nat) (D : Nm × Iv × List Sl) (I : Nm × Iv × Unit) : ∀ (m : Nat) (s pre : List Sl), s.length < m → pre.length + s.length ≤ 1000000 →
    tube_void_l0 k m (((), (), (), (((pre ++ s).length : Nat) : Int), (pre.length : Int), ()), (I, D, noneI, pre.map voidS ++ s, ())) = some (Sum.inl (((), (), ()), (I, D, (pre ++ s).map voidS, ()))) := by
  intro m
  induction m with
  | zero => intro s pre hm; omega
  | succ m IH =>
    intro s pre hm hl
    cases s with
    | nil => simp [tube_void_l0]
    | cons y s =>
      simp only [List.length_cons] at hm hl
      have ih := IH s (pre ++ [y]) (by omega) (by simp; omega)
      simp only [mid_eq, len_snoc] at ih
      simp only [tube_void_l0, cond_t (len_lt pre y s), if_pos (Int.natCast_nonneg pre.length), Option.bind_some, get_mid _ _ s pre.length (show (pre.map voidS).length = pre.length by simp), set_mid _ _ _ s pre.length (show (pre.map voidS).length = pre.length by simp), wrap_succ (show pre.length ≤ 1000000000 by omega)]
      rw [show pre.map voidS ++ (y.1, noneI, noneI) :: s = (pre ++ [y]).map voidS ++ s by simp [voidS], ih]
theorem tube_void_eq (k : Nat) (t : Tb) (h : t.2.2.length < k) (hl : t.2.2.length ≤ 1000000) : tube_void k t = some ((t.1, noneI, t.2.2.map voidS), ()) := by
  obtain ⟨st, inn, l⟩ := t
  simp only at h hl
  have h1 := void_loop k (zN, (false, (0, false, 0, 0), 0, false, 0, 0), []) (st, noneI, ()) k l [] h (by simp; omega)
  simp only [List.nil_append, List.length_nil, List.map_nil] at h1
  rw [show ((0 : Nat) : Int) = 0 from rfl] at h1
  have g1 : l.length * 176 ≤ 140737488355328 := by omega
  simp only [tube_void, iv_None_eq, Option.bind_some, if_pos g1]
  rw [h1]
  rfl
theorem emptyT_map (t : Tb) : emptyT (t.1, noneI, t.2.2.map voidS) = true := rfl
theorem fitN_ends (l : List Sl) (n : Option Sl) : (fitN l n).map voidS = l.map voidS := by
  induction l with
  | nil => rfl
  | cons s r ih => rw [fitN_cons]; simp [ih, voidS]
theorem tube_Fit_eq (k : Nat) (hk : 200 ≤ k) (t : Tb) : tube_Fit k t = some (fitT t, ()) := by
  simp only [tube_Fit, tube_May_eq k (show 100 ≤ k by omega), Option.bind_some, fitT]
  cases hm : mayT t
  · rfl
  · have hl := mayT_len hm
    have hm' := mayT_fitU hm
    obtain ⟨st, inn, l⟩ := t
    simp only at hl
    have g1 : l.length * 176 ≤ 140737488355328 := by omega
    obtain ⟨g', h1, rfl⟩ := fit_loop k (by omega) ((0, false, 0, 0), ((false, (0, false, 0, 0), 0, false, 0, 0), [])) st inn k l [] (st, inn) (st, (inn, ())) l (by omega) (by simp; omega) rfl
    simp only [List.nil_append, List.length_nil] at h1
    rw [show ((0 : Nat) : Int) = 0 from rfl] at h1
    simp only [Bool.not_true, cond_false, if_true, if_pos g1]
    rw [wrap_succ (by omega), h1]
    simp only [Option.bind_some, Sum.elim_inl, tube_Empty_eq k (show 100 ≤ k by omega), if_true]
    rw [show ((st, nx inn l, fitN l none) : Tb) = fitU (st, inn, l) from rfl, hm']
    cases he : emptyT (fitU (st, inn, l))
    · rfl
    · simp only [Bool.not_true, Bool.false_or, cond_true]
      rw [tube_void_eq k _ (by simp only [fitU, fitN_len]; omega) (by simp only [fitU, fitN_len]; omega)]
      simp [fitU, fitN_ends]
/-! ### the document's Fit; Gate, Set, Append, New, Same -/
theorem rfit_loop (k : Nat) (hk : 3 ≤ k) (D : Nm × Iv × List Sl) (st : Nm) (inn : Iv) (I : Nm × Iv × Unit) : ∀ (m : Nat) (s pre : List Sl), s.length < m → pre.length + s.length ≤ 1000000 →
    pelorusref17_Fit_l0 k m (((), (), (), (pre.length : Int), ()), ((st, inn, pre ++ s), D, I, fitN pre s.head?, ())) = some (Sum.inl (((), (), ()), (D, I, fitN (pre ++ s) none, ()))) := by
  intro m
  induction m with
  | zero => intro s pre hm; omega
  | succ m IH =>
    intro s pre hm hl
    cases s with
    | nil => simp [pelorusref17_Fit_l0]
    | cons y s =>
      simp only [List.length_cons] at hm hl
      have ih := IH s (pre ++ [y]) (by omega) (by simp; omega)
      have e : fitN (pre ++ [y]) s.head? = fitN pre (some y) ++ [(y.1, y.2.1, g2 y s.head?)] := fitN_snoc _ _ _
      simp only [mid_eq, len_snoc, e] at ih
      have hg := rgate_eq k hk st inn (pre ++ [y]) s (by simp; omega)
      rw [mid_eq, len_snoc, hd_snoc, nx_g2] at hg
      have gl : ((fitN pre (some y)).length + [(y.1, y.2.1, g2 y s.head?)].length) * 176 ≤ 140737488355328 := by rw [fitN_len]; simp; omega
      simp only [pelorusref17_Fit_l0, cond_t (len_lt pre y s), if_pos (Int.natCast_nonneg pre.length), at_mid, Option.bind_some, wrap_succ (show pre.length ≤ 1000000000 by omega), hg, List.head?_cons, if_pos gl]
      rw [ih]
theorem rvoid_loop (k : Nat) (D : Nm × Iv × List Sl) (I : Nm × Iv × Unit) : ∀ (m : Nat) (s pre : List Sl), s.length < m → pre.length + s.length ≤ 1000000 →
    pelorusref17_Fit_l1 k m (((), (), (pre.length : Int), ()), (D, I, pre.map voidS ++ s, ())) = some (Sum.inl (((), (), ()), (D, I, (pre ++ s).map voidS, ()))) := by
  intro m
  induction m with
  | zero => intro s pre hm; omega
  | succ m IH =>
    intro s pre hm hl
    cases s with
    | nil => simp [pelorusref17_Fit_l1]
    | cons y s =>
      simp only [List.length_cons] at hm hl
      have ih := IH s (pre ++ [y]) (by omega) (by simp; omega)
      simp only [mid_eq, len_snoc] at ih
      have hlt : (pre.length : Int) < ((pre.map voidS ++ y :: s).length : Int) := by simp; omega
      simp only [pelorusref17_Fit_l1, cond_t hlt, rNone_eq, if_pos (Int.natCast_nonneg pre.length), Option.bind_some, get_mid _ _ s pre.length (show (pre.map voidS).length = pre.length by simp), set_mid _ _ _ s pre.length (show (pre.map voidS).length = pre.length by simp), wrap_succ (show pre.length ≤ 1000000000 by omega)]
      rw [show pre.map voidS ++ (y.1, noneI, noneI) :: s = (pre ++ [y]).map voidS ++ s by simp [voidS], ih]
theorem rFit_eq (k : Nat) (hk : 200 ≤ k) (t : Tb) : pelorusref17_Fit k t = some (fitT t, ()) := by
  simp only [pelorusref17_Fit, rMayT_eq k (show 100 ≤ k by omega), Option.bind_some, fitT]
  cases hm : mayT t
  · rfl
  · have hl := mayT_len hm
    obtain ⟨st, inn, l⟩ := t
    simp only at hl
    have hg := rgate_eq k (by omega) st inn [] l (by simp)
    simp only [List.nil_append, List.length_nil, hd_nil] at hg
    rw [show ((0 : Nat) : Int) = 0 from rfl] at hg
    have h1 := rfit_loop k (by omega) ((0, false, 0, 0), ((false, (0, false, 0, 0), 0, false, 0, 0), [])) st inn (st, (nx inn l, ())) k l [] (by omega) (by simp; omega)
    simp only [List.nil_append, List.length_nil, fitN] at h1
    rw [show ((0 : Nat) : Int) = 0 from rfl] at h1
    simp only [Bool.not_true, cond_false, if_true, hg, Option.bind_some]
    rw [h1]
    simp only [Option.bind_some, Sum.elim_inl]
    rw [show ((st, nx inn l, fitN l none) : Tb) = fitU (st, inn, l) from rfl, rempty_eq k _ (by simp only [fitU, fitN_len]; omega) (by simp only [fitU, fitN_len]; omega)]
    cases he : emptyT (fitU (st, inn, l))
    · rfl
    · simp only [Option.bind_some, cond_true, rNone_eq]
      have h2 := rvoid_loop k ((0, false, 0, 0), ((false, (0, false, 0, 0), 0, false, 0, 0), [])) (st, (noneI, ())) k (fitN l none) [] (by rw [fitN_len]; omega) (by rw [fitN_len]; simp; omega)
      simp only [List.nil_append, List.length_nil, List.map_nil] at h2
      rw [show ((0 : Nat) : Int) = 0 from rfl] at h2
      rw [h2]
      simp [fitN_ends]

abbrev zT : Tb := (zN, (false, zN, zN), [])
def gateT (t : Tb) (i : Int) : Iv := if mayT t = true ∧ 0 ≤ i ∧ i ≤ t.2.2.length then (if i = 0 then t.2.1 else ((t.2.2[(i - 1).toNat]?).map (·.2.2)).getD noneI) else noneI
def appT (t : Tb) (n : Nm) (a o : Iv) : Tb × Int :=
  if mayT t && finite n && mayI a && mayI o then (if 64 ≤ t.2.2.length then (zT, 3) else if cmp n (wn t.1 t.2.2) ≤ 0 then (zT, 6) else ((t.1, t.2.1, t.2.2 ++ [(n, a, o)]), 0)) else (zT, 1)
def newT (n : Nm) (x : Iv) : Tb × Int := if mayT (n, x, []) then ((n, x, []), 0) else (zT, 1)
def setO (l : List Sl) (i : Nat) (x : Iv) : List Sl := match l[i]? with | some s => l.set i (s.1, s.2.1, two s.2.2 x) | none => l
def setT (t : Tb) (i : Int) (x : Iv) : Tb × Int :=
  if mayT t && mayI x then (if i < 0 ∨ i > t.2.2.length then (zT, 7) else if i = 0 then (fitT (t.1, two t.2.1 x, t.2.2), 0) else (fitT (t.1, t.2.1, setO t.2.2 (i - 1).toNat x), 0)) else (zT, 1)

theorem tube_Append_eq (k : Nat) (hk : 100 ≤ k) (t : Tb) (n : Nm) (a o : Iv) : tube_Append k t n a o = some ((appT t n a o).1, (appT t n a o).2, ()) := by
  simp only [tube_Append, tube_May_eq k hk, tube_finite_eq, iv_May_eq, Option.bind_some, appT]
  cases hm : mayT t
  · simp
  · have hl := mayT_len hm
    rw [tube_end_eq k t (by omega)]
    have g1 : t.2.2.length * 176 ≤ 140737488355328 := by omega
    have g2 : (t.2.2.length + [(n, a, o)].length) * 176 ≤ 140737488355328 := by simp; omega
    simp only [num_Cmp_eq, Option.bind_some, if_pos g1, if_pos g2]
    cases finite n
    · simp
    · cases mayI a
      · simp
      · cases mayI o
        · simp
        · by_cases h1 : 64 ≤ t.2.2.length
          · have : (t.2.2.length : Int) ≥ 64 := by omega
            simp [h1, this]
          · have : ¬ (t.2.2.length : Int) ≥ 64 := by omega
            by_cases h2 : cmp n (wn t.1 t.2.2) ≤ 0
            · simp only [Bool.not_true, cond_false, cond_f this, cond_t h2, Bool.and_self, if_true, if_neg h1, if_pos h2]
            · simp only [Bool.not_true, cond_false, cond_f this, cond_f h2, Bool.and_self, if_true, if_neg h1, if_neg h2]
theorem rAppend_eq (k : Nat) (hk : 100 ≤ k) (t : Tb) (n : Nm) (a o : Iv) : pelorusref17_Append k t n a o = some ((appT t n a o).1, (appT t n a o).2, ()) := by
  rw [← tube_Append_eq k hk]
  simp only [pelorusref17_Append, tube_Append, rMayT_eq k hk, rwhen_eq, rMayI_eq, tube_May_eq k hk, tube_finite_eq, iv_May_eq, Option.bind_some]
  cases hm : mayT t
  · rfl
  · have hl := mayT_len hm
    rw [tube_end_eq k t (by omega)]
    have hw := rWhen_eq k t.1 t.2.1 t.2.2 [] (by omega)
    rw [List.append_nil] at hw
    rw [show (t.1, t.2.1, t.2.2) = t from rfl] at hw
    rw [hw]
    simp only [num_Cmp_eq, rnum_Cmp_eq, Option.bind_some]
theorem tube_New_eq (k : Nat) (hk : 100 ≤ k) (n : Nm) (x : Iv) : tube_New k n x = some ((newT n x).1, (newT n x).2, ()) := by
  simp only [tube_New, tube_May_eq k hk, Option.bind_some, newT]
  cases mayT (n, x, []) <;> rfl
theorem rNew_eq (k : Nat) (hk : 100 ≤ k) (n : Nm) (x : Iv) : pelorusref17_New k n x = some ((newT n x).1, (newT n x).2, ()) := by
  simp only [pelorusref17_New, rMayT_eq k hk, Option.bind_some, newT]
  cases mayT (n, x, []) <;> rfl
theorem same_loop (k : Nat) (a1 b1 : Nm) (a2 b2 : Iv) : ∀ (m : Nat) (s s' pre pre' : List Sl), s.length < m → pre.length + s.length ≤ 1000000 → s.length = s'.length → pre.length = pre'.length →
    pelorusref17_Same_l0 k m (((), (), (pre.length : Int), ()), ((a1, a2, pre ++ s), (b1, b2, pre' ++ s'), ())) = some (bif decide (s = s') then Sum.inr (Sum.inl ((), ())) else Sum.inl ((false, ()), ())) := by
  intro m
  induction m with
  | zero => intro s s' pre pre' hm; omega
  | succ m IH =>
    intro s s' pre pre' hm hl hs hp
    cases s with
    | nil =>
      cases s' with
      | nil => simp [pelorusref17_Same_l0]
      | cons => simp at hs
    | cons y s =>
      cases s' with
      | nil => simp at hs
      | cons z s' =>
        simp only [List.length_cons] at hm hl hs
        have ih := IH s s' (pre ++ [y]) (pre' ++ [z]) (by omega) (by simp; omega) (by omega) (by simp; omega)
        simp only [mid_eq, len_snoc] at ih
        simp only [pelorusref17_Same_l0, cond_t (len_lt pre y s), if_pos (Int.natCast_nonneg pre.length), at_mid, get_mid pre' z s' pre.length hp.symm, Option.bind_some, wrap_succ (show pre.length ≤ 1000000000 by omega), beqS]
        rw [ih]
        by_cases h : y = z
        · simp [h]
        · simp [h]
instance decTb : DecidableEq Tb := fun x y => decidable_of_iff (x.1 = y.1 ∧ x.2.1 = y.2.1 ∧ x.2.2 = y.2.2) ⟨fun h => Prod.ext h.1 (Prod.ext h.2.1 h.2.2), fun h => h ▸ ⟨rfl, rfl, rfl⟩⟩
theorem same_eq (k : Nat) (a b : Tb) (h : a.2.2.length < k) (hl : a.2.2.length ≤ 1000000) : pelorusref17_Same k a b = some (decide (a = b), ()) := by
  obtain ⟨a1, a2, a3⟩ := a; obtain ⟨b1, b2, b3⟩ := b
  simp only at h hl
  simp only [pelorusref17_Same, beqN, beqI]
  by_cases h1 : a1 = b1
  · by_cases h2 : a2 = b2
    · by_cases h3 : a3.length = b3.length
      · have h4 := same_loop k a1 b1 a2 b2 k a3 b3 [] [] h (by simp; omega) h3 rfl
        simp only [List.nil_append, List.length_nil] at h4
        rw [show ((0 : Nat) : Int) = 0 from rfl] at h4
        rw [h4]
        by_cases h5 : a3 = b3
        · subst h1 h2 h5; simp
        · simp [h1, h2, h3, h5]
      · have h4 : ((a3.length : Int) != (b3.length : Int)) = true := by simp; omega
        have h5 : ¬ a3 = b3 := fun e => h3 (by rw [e])
        simp [h1, h2, h4, h5]
    · simp [h1, h2]
  · simp [h1]
/-! ### two tubes -/
def ends (l : List Sl) : List Nm := l.map (·.1)
def sameT (a b : Tb) : Bool := decide (a.1 = b.1) && decide (ends a.2.2 = ends b.2.2)
def timesT (a b : Tb) : Bool := mayT a && mayT b && sameT a b
def meetS (x y : Sl) : Sl := (x.1, two x.2.1 y.2.1, two x.2.2 y.2.2)
def meetT (a b : Tb) : Tb × Int := bif timesT a b then (fitT (a.1, two a.2.1 b.2.1, List.zipWith meetS a.2.2 b.2.2), 0) else (zT, 1)
def wiS (x y : Sl) : Bool := within x.2.1 y.2.1 && within x.2.2 y.2.2
def allW : List Sl → List Sl → Bool
  | x :: s, y :: r => wiS x y && allW s r
  | _, _ => true
def withinT (a b : Tb) : Bool := timesT a b && (emptyT a || (allW a.2.2 b.2.2 && within a.2.1 b.2.1))

theorem ends_cons (y : Sl) (s : List Sl) : ends (y :: s) = y.1 :: ends s := rfl
theorem ends_ne {a b : List Sl} (h : ¬ a.length = b.length) : ¬ ends a = ends b := fun e => h (by have := congrArg List.length e; simpa [ends] using this)
theorem sameT_len {a b : Tb} (h : sameT a b = true) : a.2.2.length = b.2.2.length := by
  simp only [sameT, Bool.and_eq_true, decide_eq_true_eq] at h
  have := congrArg List.length h.2
  simpa [ends] using this

/-! ### the laws of layer 17 -/
theorem fitT_len (t : Tb) : (fitT t).2.2.length = t.2.2.length := by
  unfold fitT
  repeat' split
  all_goals simp [fitU, fitN_len]
theorem appT_len (t : Tb) (n : Nm) (a o : Iv) : (appT t n a o).1.2.2.length ≤ t.2.2.length + 1 := by
  unfold appT
  repeat' split
  all_goals simp
theorem setT_len (t : Tb) (i : Int) (x : Iv) : (setT t i x).1.2.2.length ≤ t.2.2.length := by
  unfold setT setO
  repeat' split
  all_goals simp [fitT_len]
theorem newT_len (n : Nm) (x : Iv) : (newT n x).1.2.2.length = 0 := by
  unfold newT
  split <;> rfl
theorem meetT_len (a b : Tb) (h : a.2.2.length ≤ 70) : (meetT a b).1.2.2.length ≤ 70 := by
  unfold meetT
  cases timesT a b
  · simp
  · simp [fitT_len]; omega
/-! ### less -/
theorem within_none (b : Iv) : within noneI b = true := by
  unfold within; rw [fairI_may mayI_noneI]; rfl
theorem within_refl (a : Iv) : within a a = true := by
  unfold within
  cases (fairI a).1 <;> simp [cmp_self]
theorem within_iff {a b : Iv} : within a b = true ↔ (fairI a).1 = true ∨ ((fairI b).1 = false ∧ cmp (fairI b).2.1 (fairI a).2.1 ≤ 0 ∧ cmp (fairI a).2.2 (fairI b).2.2 ≤ 0) := by
  simp only [within, Bool.or_eq_true, Bool.and_eq_true, decide_eq_true_eq, Bool.not_eq_true', and_assoc]
theorem within_trans {a b c : Iv} (h1 : within a b = true) (h2 : within b c = true) : within a c = true := by
  rw [within_iff] at *
  rcases h1 with h1 | ⟨h1, h3, h4⟩
  · exact .inl h1
  · rcases h2 with h2 | ⟨h2, h5, h6⟩
    · rw [h1] at h2; cases h2
    · exact .inr ⟨h2, cmp_le_trans h5 h3, cmp_le_trans h4 h6⟩
theorem two_cases (a b : Iv) : two a b = noneI ∨ ((fairI a).1 = false ∧ (fairI b).1 = false ∧ two a b = (false, most [(fairI a).2.1, (fairI b).2.1], least [(fairI a).2.2, (fairI b).2.2])) := by
  unfold two
  cases ha : (fairI a).1 <;> cases hb : (fairI b).1
  · simp only [Bool.or_self, Bool.false_eq_true, if_false]
    rcases mkI_cases (most [(fairI a).2.1, (fairI b).2.1]) (least [(fairI a).2.2, (fairI b).2.2]) with h | ⟨h, _⟩
    · exact .inl h
    · right
      rw [h, fair_may (most_may _), fair_may (least_may _)]
      exact ⟨trivial, trivial, rfl⟩
  all_goals simp
theorem two_le_left (a b : Iv) : within (two a b) a = true := by
  rw [within_iff, fairI_may (mayI_two a b)]
  rcases two_cases a b with h | ⟨h1, h2, h3⟩
  · left; rw [h]
  · right
    rw [h3]
    exact ⟨h1, most_ge (by simp), least_le (by simp)⟩
theorem two_le_right (a b : Iv) : within (two a b) b = true := by
  rw [within_iff, fairI_may (mayI_two a b)]
  rcases two_cases a b with h | ⟨h1, h2, h3⟩
  · left; rw [h]
  · right
    rw [h3]
    exact ⟨h2, most_ge (by simp), least_le (by simp)⟩
theorem g2_le (s : Sl) (n : Option Sl) : within (g2 s n) s.2.2 = true := by
  cases n with
  | none => exact two_le_left _ _
  | some s' => exact within_trans (two_le_left _ _) (two_le_left _ _)
theorem nx_le (x : Iv) (l : List Sl) : within (nx x l) x = true := by
  cases l with
  | nil => exact within_refl _
  | cons s r => exact two_le_left _ _
theorem ends_fitN (l : List Sl) (n : Option Sl) : ends (fitN l n) = ends l := by
  induction l with
  | nil => rfl
  | cons s r ih => rw [fitN_cons, ends_cons, ends_cons, ih]
theorem ends_void (l : List Sl) : ends (l.map voidS) = ends l := by simp [ends, voidS]
theorem okS_void : ∀ (l : List Sl) (w : Nm), okS w l = true → okS w (l.map voidS) = true
  | [], _, _ => rfl
  | s :: r, w, h => by
    simp only [List.map_cons, okS, Bool.and_eq_true, voidS] at h ⊢
    exact ⟨⟨⟨h.1.1.1, mayI_noneI⟩, mayI_noneI⟩, okS_void r s.1 h.2⟩
theorem mayT_void {t : Tb} (h : mayT t = true) : mayT (t.1, noneI, t.2.2.map voidS) = true := by
  simp only [mayT, Bool.and_eq_true, decide_eq_true_eq] at h ⊢
  exact ⟨⟨⟨h.1.1.1, mayI_noneI⟩, by simpa using h.1.2⟩, okS_void _ _ h.2⟩
theorem mayT_fitT {t : Tb} (h : mayT t = true) : mayT (fitT t) = true := by
  unfold fitT
  rw [if_pos h]
  split
  · exact mayT_void h
  · exact mayT_fitU h
theorem fitT_1 (t : Tb) : (fitT t).1 = t.1 := by
  unfold fitT; repeat' split
  all_goals rfl
theorem ends_fitT (t : Tb) : ends (fitT t).2.2 = ends t.2.2 := by
  unfold fitT; repeat' split
  · exact ends_void _
  · exact ends_fitN _ _
  · rfl
theorem allW_fitN (l : List Sl) (n : Option Sl) : allW (fitN l n) l = true := by
  induction l with
  | nil => rfl
  | cons s r ih => rw [fitN_cons, allW, ih]; simp [wiS, within_refl, g2_le]
theorem sameT_fitT (t : Tb) : sameT (fitT t) t = true := by simp [sameT, fitT_1, ends_fitT]
theorem allW_trans : ∀ (a b c : List Sl), a.length = b.length → b.length = c.length → allW a b = true → allW b c = true → allW a c = true
  | [], _, _, _, _, _, _ => by simp [allW]
  | _ :: _, [], _, h, _, _, _ => by simp at h
  | _ :: _, _ :: _, [], _, h, _, _ => by simp at h
  | x :: a, y :: b, z :: c, h, h', h1, h2 => by
    simp only [allW, wiS, Bool.and_eq_true, List.length_cons] at *
    exact ⟨⟨within_trans h1.1.1 h2.1.1, within_trans h1.1.2 h2.1.2⟩, allW_trans a b c (by omega) (by omega) h1.2 h2.2⟩
/-- Fitted, a tube is within each that it was within, place by place. -/
theorem withinT_fitT {u t : Tb} (hu : mayT u = true) (ht : mayT t = true) (hs : sameT u t = true) (ha : allW u.2.2 t.2.2 = true) (hi : within u.2.1 t.2.1 = true) : withinT (fitT u) t = true := by
  have hl := sameT_len hs
  simp only [sameT, Bool.and_eq_true, decide_eq_true_eq] at hs
  simp only [withinT, timesT, sameT, mayT_fitT hu, ht, fitT_1, ends_fitT, hs.1, hs.2, decide_true, Bool.and_self, Bool.true_and]
  unfold fitT
  rw [if_pos hu]
  split
  · rfl
  · simp only [fitU, Bool.or_eq_true, Bool.and_eq_true]
    exact .inr ⟨allW_trans _ _ _ (fitN_len _ _) hl (allW_fitN _ _) ha, within_trans (nx_le _ _) hi⟩
theorem allW_refl : ∀ l : List Sl, allW l l = true
  | [] => rfl
  | x :: l => by simp [allW, wiS, within_refl, allW_refl l]
theorem setO_spec {l : List Sl} {i : Nat} (h : i < l.length) (x : Iv) : setO l i x = l.set i (l[i].1, l[i].2.1, two l[i].2.2 x) := by
  unfold setO; rw [List.getElem?_eq_getElem h]
theorem allW_set : ∀ (l : List Sl) (i : Nat) (x : Iv), allW (setO l i x) l = true
  | [], i, x => by simp [setO, allW]
  | s :: r, 0, x => by simp [setO, allW, wiS, within_refl, two_le_left, allW_refl]
  | s :: r, i + 1, x => by
    have ih := allW_set r i x
    unfold setO at *
    simp only [List.getElem?_cons_succ]
    cases hr : r[i]? with
    | none => rw [hr] at ih; simp [allW, wiS, within_refl, allW_refl]
    | some q => rw [hr] at ih; simp only at ih ⊢; simp [allW, wiS, within_refl, ih]
theorem ends_set (l : List Sl) (i : Nat) (x : Iv) : ends (setO l i x) = ends l := by
  unfold setO
  cases h : l[i]? with
  | none => rfl
  | some q =>
    simp only [ends, List.map_set]
    obtain ⟨hi, he⟩ := List.getElem?_eq_some_iff.1 h
    apply List.ext_getElem
    · simp
    · intro n h1 h2
      rw [List.getElem_set]
      split
      · rename_i e; subst e; simp [he]
      · rfl
theorem okS_set : ∀ (l : List Sl) (w : Nm) (i : Nat) (x : Iv), okS w l = true → okS w (setO l i x) = true
  | [], w, i, x, _ => by simp [setO, okS]
  | s :: r, w, 0, x, h => by
    simp only [setO, List.getElem?_cons_zero, List.set_cons_zero, okS, Bool.and_eq_true] at h ⊢
    exact ⟨⟨h.1.1, mayI_two _ _⟩, h.2⟩
  | s :: r, w, i + 1, x, h => by
    simp only [okS, Bool.and_eq_true] at h
    have ih := okS_set r s.1 i x h.2
    unfold setO at *
    simp only [List.getElem?_cons_succ]
    cases hr : r[i]? with
    | none => simp only [okS, Bool.and_eq_true]; exact h
    | some q => rw [hr] at ih; simp only [List.set_cons_succ, okS, Bool.and_eq_true] at ih ⊢; exact ⟨h.1, ih⟩
theorem setO_len (l : List Sl) (i : Nat) (x : Iv) : (setO l i x).length = l.length := by
  unfold setO; split <;> simp
theorem fitN_get (l : List Sl) (n : Option Sl) (i : Nat) (h : i < l.length) : ∃ o, (fitN l n)[i]? = some (l[i].1, l[i].2.1, g2 l[i] o) := by
  induction l generalizing i with
  | nil => simp at h
  | cons s r ih =>
    rw [fitN_cons]
    cases i with
    | zero => exact ⟨_, rfl⟩
    | succ i => simpa using ih i (by simpa using h)
/-- What a gate that was set has. -/
theorem gate_fitT {u : Tb} (hu : mayT u = true) {i : Int} (h0 : 0 ≤ i) (h1 : i ≤ u.2.2.length) : within (gateT (fitT u) i) (gateT u i) = true ∧ (emptyT (fitT u) = true → (gateT (fitT u) i).1 = true) := by
  have hl := fitT_len u
  have e1 : gateT u i = if i = 0 then u.2.1 else ((u.2.2[(i - 1).toNat]?).map (·.2.2)).getD noneI := by unfold gateT; rw [if_pos ⟨hu, h0, h1⟩]
  have e2 : gateT (fitT u) i = if i = 0 then (fitT u).2.1 else (((fitT u).2.2[(i - 1).toNat]?).map (·.2.2)).getD noneI := by unfold gateT; rw [if_pos ⟨mayT_fitT hu, h0, by rw [hl]; exact h1⟩]
  by_cases he : emptyT (fitU u) = true
  · have ef : fitT u = (u.1, noneI, u.2.2.map voidS) := by unfold fitT; rw [if_pos hu, if_pos he]
    have e3 : gateT (fitT u) i = noneI := by
      rw [e2, ef]
      split
      · rfl
      · cases hq : u.2.2[(i - 1).toNat]? with
        | none => rw [List.getElem?_map, hq]; rfl
        | some q => rw [List.getElem?_map, hq]; rfl
    rw [e3]
    exact ⟨within_none _, fun _ => rfl⟩
  · have ef : fitT u = fitU u := by unfold fitT; rw [if_pos hu, if_neg he]
    rw [e1, e2, ef]
    refine ⟨?_, fun h => absurd h he⟩
    split
    · exact nx_le _ _
    · have hi : (i - 1).toNat < u.2.2.length := by omega
      obtain ⟨o, ho⟩ := fitN_get u.2.2 none _ hi
      simp only [fitU, ho, List.getElem?_eq_getElem hi, Option.map_some, Option.getD_some]
      exact g2_le _ _
theorem setT_laws {t : Tb} {i : Int} {x : Iv} (h : (setT t i x).2 = 0) : withinT (setT t i x).1 t = true ∧ within (gateT (setT t i x).1 i) (two (gateT t i) x) = true ∧ mayT (setT t i x).1 = true ∧ (emptyT (setT t i x).1 = true → (gateT (setT t i x).1 i).1 = true) := by
  unfold setT at h ⊢
  split at h
  case isFalse => cases h
  rename_i hm
  rw [if_pos hm]
  simp only [Bool.and_eq_true] at hm
  obtain ⟨hm, hx⟩ := hm
  split at h
  case isTrue => cases h
  rename_i hb
  rw [if_neg hb]
  have hmm := hm
  simp only [mayT, Bool.and_eq_true, decide_eq_true_eq] at hmm
  obtain ⟨⟨⟨a1, a2⟩, a3⟩, a4⟩ := hmm
  have gt : gateT t i = if i = 0 then t.2.1 else ((t.2.2[(i - 1).toNat]?).map (·.2.2)).getD noneI := by unfold gateT; rw [if_pos ⟨hm, by omega, by omega⟩]
  split
  · rename_i h0
    have hu : mayT (t.1, two t.2.1 x, t.2.2) = true := by
      simp only [mayT, Bool.and_eq_true, decide_eq_true_eq]
      exact ⟨⟨⟨a1, mayI_two _ _⟩, a3⟩, a4⟩
    obtain ⟨g1, g3⟩ := gate_fitT hu (i := i) (by omega) (by simp only; omega)
    refine ⟨withinT_fitT hu hm (by simp [sameT]) (allW_refl _) (two_le_left _ _), ?_, mayT_fitT hu, g3⟩
    refine within_trans g1 ?_
    have : gateT (t.1, two t.2.1 x, t.2.2) i = two t.2.1 x := by unfold gateT; rw [if_pos ⟨hu, by omega, by simp only; omega⟩, if_pos h0]
    rw [this, gt, if_pos h0]
    exact within_refl _
  · rename_i h0
    have hu : mayT (t.1, t.2.1, setO t.2.2 (i - 1).toNat x) = true := by
      simp only [mayT, Bool.and_eq_true, decide_eq_true_eq]
      exact ⟨⟨⟨a1, a2⟩, by rw [setO_len]; exact a3⟩, okS_set _ _ _ _ a4⟩
    obtain ⟨g1, g3⟩ := gate_fitT hu (i := i) (by omega) (by simp only [setO_len]; omega)
    refine ⟨withinT_fitT hu hm (by simp [sameT, ends_set]) (allW_set _ _ _) (within_refl _), ?_, mayT_fitT hu, g3⟩
    refine within_trans g1 ?_
    have hi : (i - 1).toNat < t.2.2.length := by omega
    have : gateT (t.1, t.2.1, setO t.2.2 (i - 1).toNat x) i = two t.2.2[(i - 1).toNat].2.2 x := by
      unfold gateT
      rw [if_pos ⟨hu, by omega, by simp only [setO_len]; omega⟩, if_neg h0, setO_spec hi]
      simp only [List.getElem?_set_self hi, Option.map_some, Option.getD_some]
    rw [this, gt, if_neg h0, List.getElem?_eq_getElem hi]
    exact within_refl _
theorem setT_err {t : Tb} {i : Int} {x : Iv} (h : (setT t i x).2 ≠ 0) : (setT t i x).1 = zT := by
  unfold setT at *
  split
  · rename_i hm
    rw [if_pos hm] at h
    split
    · rfl
    · rename_i hb
      rw [if_neg hb] at h
      split at h <;> exact absurd rfl h
  · rfl
end Go.Proofs.YtmlnohiaagmgnaaGreat.Rf.Pl
