/- Plain laws: what the functions answer, without the program's memory (part 1). No condition. -/
import Derived.Test.YtjjhfhhoefdjaaaGreatDoorR1
import Derived.KernelRfl
import Derived.DataShut
import Derived.Laws.BitsLemmas
import Derived.Lib.EndianBits
namespace Go.Proofs.YtjjhfhhoefdjaaaGreatDoor.Rf.Pl
open Go Go.Proofs
set_option linter.unusedVariables false
set_option linter.unusedSimpArgs false
/-! ### numbers and intervals: what the functions of layers 5 and 8 answer -/
abbrev Nm := Int × Bool × Int × Int
abbrev Iv := Bool × Nm × Nm
abbrev Sl := Nm × Iv × Iv
abbrev Tb := Nm × Iv × List Sl
abbrev TNm : Ty := (.pair (.int .i64) (.pair .bool (.pair (.int .u64) (.int .i64))))
abbrev TIv : Ty := (.pair .bool (.pair TNm TNm))
abbrev TSl : Ty := (.pair TNm (.pair TIv TIv))

theorem beqN (x y : Nm) : beqT TNm x y = decide (x = y) := by
  obtain ⟨a, b, c, d⟩ := x; obtain ⟨a', b', c', d'⟩ := y
  simp only [beqT, Prod.mk.injEq, Bool.decide_and]
  congr 1
theorem beqI (x y : Iv) : beqT TIv x y = decide (x = y) := by
  obtain ⟨a, b, c⟩ := x; obtain ⟨a', b', c'⟩ := y
  rw [show beqT TIv (a, b, c) (a', b', c') = ((a == a') && (beqT TNm b b' && beqT TNm c c')) from rfl, beqN, beqN]
  simp only [Prod.mk.injEq, Bool.decide_and]
  cases a <;> cases a' <;> rfl
instance decSl : DecidableEq Sl := fun x y => decidable_of_iff (x.1 = y.1 ∧ x.2.1 = y.2.1 ∧ x.2.2 = y.2.2) ⟨fun h => Prod.ext h.1 (Prod.ext h.2.1 h.2.2), fun h => h ▸ ⟨rfl, rfl, rfl⟩⟩
theorem beqS (x y : Sl) : beqT TSl x y = decide (x = y) := by
  obtain ⟨a, b, c⟩ := x; obtain ⟨a', b', c'⟩ := y
  rw [show beqT TSl (a, b, c) (a', b', c') = (beqT TNm a a' && (beqT TIv b b' && beqT TIv c c')) from rfl, beqN, beqI, beqI]
  simp only [Prod.mk.injEq, Bool.decide_and]

abbrev zN : Nm := (0, false, 0, 0)
abbrev inf (b : Bool) : Nm := (2, b, 0, 0)
def may (n : Nm) : Bool := (decide (n = zN)) || (n.1 == 1 && decide (9223372036854775808 ≤ n.2.2.1) && decide (-1048576 ≤ n.2.2.2) && decide (n.2.2.2 ≤ 1048576)) || (n.1 == 2 && n.2.2.1 == 0 && n.2.2.2 == 0)
def fair (n : Nm) : Nm := if may n then n else zN
def sgn (n : Nm) : Int := if (fair n).1 = 0 then 0 else if (fair n).2.1 then -1 else 1
/-- Where a number that may be stands in their order. -/
def tri (n : Nm) : Int × Int × Int := if n.2.1 then (-n.1, -n.2.2.2, -n.2.2.1) else (n.1, n.2.2.2, n.2.2.1)
def tlt (a b : Int × Int × Int) : Prop := a.1 < b.1 ∨ a.1 = b.1 ∧ (a.2.1 < b.2.1 ∨ a.2.1 = b.2.1 ∧ a.2.2 < b.2.2)
instance (a b : Int × Int × Int) : Decidable (tlt a b) := by unfold tlt; exact inferInstance
abbrev nlt (a b : Nm) : Prop := tlt (tri (fair a)) (tri (fair b))
def cmp (a b : Nm) : Int := if nlt a b then -1 else if nlt b a then 1 else 0

theorem wrap_small {x : Int} (h : -9223372036854775808 ≤ x) (h' : x ≤ 9223372036854775807) : IntKind.i64.wrap x = x := by
  simp only [IntKind.wrap, IntKind.bits, IntKind.signed]
  simp
  omega

theorem may_zN : may zN = true := by decide
theorem may_inf (b : Bool) : may (inf b) = true := by cases b <;> decide
theorem may_fair (n : Nm) : may (fair n) = true := by 
  unfold fair
  split
  · assumption
  · exact may_zN
theorem fair_fair (n : Nm) : fair (fair n) = fair n := by
  rw [fair, if_pos (may_fair n)]
theorem fair_may {n : Nm} (h : may n = true) : fair n = n := by rw [fair, if_pos h]
theorem may_cases {n : Nm} (h : may n = true) : n = zN ∨ (n.1 = 1 ∧ 9223372036854775808 ≤ n.2.2.1 ∧ -1048576 ≤ n.2.2.2 ∧ n.2.2.2 ≤ 1048576) ∨ (n.1 = 2 ∧ n.2.2.1 = 0 ∧ n.2.2.2 = 0) := by
  simp only [may, Bool.or_eq_true, Bool.and_eq_true, decide_eq_true_eq, beq_iff_eq] at h
  grind

theorem num_May_eq (k : Nat) (n : Nm) : num_May k n = some (may n, ()) := by
  obtain ⟨a, b, c, d⟩ := n
  simp only [num_May, beqN, may, cond_eq_ite, beq_iff_eq]
  repeat' split
  all_goals (first | omega | simp_all <;> omega)
theorem num_fair_eq (k : Nat) (n : Nm) : num_fair k n = some (fair n, ()) := by
  simp only [num_fair, num_May_eq, Option.bind_some, fair]
  cases may n <;> rfl
theorem num_Sign_eq (k : Nat) (n : Nm) : num_Sign k n = some (sgn n, ()) := by
  simp only [num_Sign, num_fair_eq, Option.bind_some, sgn, cond_eq_ite, beq_iff_eq]
  grind
theorem num_Cmp_eq (k : Nat) (a b : Nm) : num_Cmp k a b = some (cmp a b, ()) := by
  simp only [num_Cmp, num_fair_eq, Option.bind_some, num_Sign_eq, num_farther, sgn, fair_fair, cmp, nlt]
  have ha := may_cases (may_fair a)
  have hb := may_cases (may_fair b)
  generalize fair a = x at *
  generalize fair b = y at *
  obtain ⟨a, b, c, d⟩ := x; obtain ⟨a', b', c', d'⟩ := y
  have w1 : IntKind.i64.wrap (0 - 1) = -1 := by decide
  have w2 : IntKind.i64.wrap (0 - (-1)) = 1 := by decide
  have w3 : IntKind.i64.wrap 0 = 0 := by decide
  simp only [Prod.mk.injEq] at ha hb
  simp only [cond_eq_ite, bne_iff_ne, ne_eq, decide_eq_true_eq, tlt, tri]
  cases b <;> cases b' <;> simp at ha hb ⊢ <;> grind
theorem sgn_eq (n : Nm) : sgn n = if (fair n).1 = 0 then 0 else if (fair n).2.1 then -1 else 1 := rfl
theorem cmp_fair_l (a b : Nm) : cmp (fair a) b = cmp a b := by simp only [cmp, nlt, fair_fair]
theorem cmp_fair_r (a b : Nm) : cmp a (fair b) = cmp a b := by simp only [cmp, nlt, fair_fair]
theorem tri_inj {a b : Nm} (ha : may a = true) (hb : may b = true) (h : tri a = tri b) : a = b := by
  have ha := may_cases ha
  have hb := may_cases hb
  obtain ⟨x1, x2, x3, x4⟩ := a; obtain ⟨y1, y2, y3, y4⟩ := b
  simp only [tri, Prod.mk.injEq] at *
  cases x2 <;> cases y2 <;> simp at ha hb h ⊢ <;> grind
theorem cmp_zero {a b : Nm} : cmp a b = 0 ↔ fair a = fair b := by
  refine ⟨fun h => tri_inj (may_fair a) (may_fair b) ?_, fun h => ?_⟩
  · simp only [cmp, nlt, tlt] at h
    generalize tri (fair a) = x at *
    generalize tri (fair b) = y at *
    obtain ⟨x1, x2, x3⟩ := x; obtain ⟨y1, y2, y3⟩ := y
    simp only [Prod.mk.injEq] at h ⊢
    grind
  · simp only [cmp, nlt, h, tlt]
    simp
theorem cmp_self (a : Nm) : cmp a a = 0 := cmp_zero.2 rfl
theorem cmp_cases (a b : Nm) : cmp a b = -1 ∨ cmp a b = 0 ∨ cmp a b = 1 := by unfold cmp; grind
theorem cmp_swap (a b : Nm) : cmp b a = - cmp a b := by
  simp only [cmp, nlt, tlt]
  generalize tri (fair a) = x
  generalize tri (fair b) = y
  obtain ⟨x1, x2, x3⟩ := x; obtain ⟨y1, y2, y3⟩ := y
  dsimp only
  repeat' split
  all_goals omega
/-- Their order, as one of places. -/
theorem cmp_le {a b : Nm} : cmp a b ≤ 0 ↔ ¬ tlt (tri (fair b)) (tri (fair a)) := by
  simp only [cmp, nlt, tlt]
  generalize tri (fair a) = x
  generalize tri (fair b) = y
  obtain ⟨x1, x2, x3⟩ := x; obtain ⟨y1, y2, y3⟩ := y
  dsimp only
  repeat' split
  all_goals omega
theorem cmp_lt {a b : Nm} : cmp a b < 0 ↔ tlt (tri (fair a)) (tri (fair b)) := by
  simp only [cmp, nlt, tlt]
  generalize tri (fair a) = x
  generalize tri (fair b) = y
  obtain ⟨x1, x2, x3⟩ := x; obtain ⟨y1, y2, y3⟩ := y
  dsimp only
  repeat' split
  all_goals omega
theorem cmp_le_trans {a b c : Nm} (h1 : cmp a b ≤ 0) (h2 : cmp b c ≤ 0) : cmp a c ≤ 0 := by
  rw [cmp_le] at *
  simp only [tlt] at *
  omega
theorem cmp_lt_of_lt_le {a b c : Nm} (h1 : cmp a b < 0) (h2 : cmp b c ≤ 0) : cmp a c < 0 := by
  rw [cmp_le] at h2
  rw [cmp_lt] at *
  simp only [tlt] at *
  omega
theorem cmp_lt_of_le_lt {a b c : Nm} (h1 : cmp a b ≤ 0) (h2 : cmp b c < 0) : cmp a c < 0 := by
  rw [cmp_le] at h1
  rw [cmp_lt] at *
  simp only [tlt] at *
  omega
theorem cmp_pos {a b : Nm} : cmp a b > 0 ↔ cmp b a < 0 := by have := cmp_swap a b; omega
theorem cmp_nonneg {a b : Nm} : cmp a b ≥ 0 ↔ cmp b a ≤ 0 := by have := cmp_swap a b; omega
theorem cmp_anti {a b : Nm} (h1 : cmp a b ≤ 0) (h2 : cmp b a ≤ 0) : fair a = fair b := cmp_zero.1 (by have := cmp_swap a b; omega)

/-! intervals -/
abbrev noneI : Iv := (true, zN, zN)
abbrev allI : Iv := (false, inf true, inf false)
def mayI (x : Iv) : Bool := if x.1 then decide (x = noneI) else may x.2.1 && may x.2.2 && decide (cmp x.2.1 x.2.2 ≤ 0) && !decide (x.2.1 = inf false) && !decide (x.2.2 = inf true)
def fairI (x : Iv) : Iv := if mayI x then x else noneI
def neg (n : Nm) : Nm := ((fair n).1, (if (fair n).1 = 0 then false else !(fair n).2.1), (fair n).2.2)
def mkI (lo hi : Nm) : Iv := fairI (false, fair lo, fair hi)
def within (a b : Iv) : Bool := (fairI a).1 || (!(fairI b).1 && decide (cmp (fairI b).2.1 (fairI a).2.1 ≤ 0) && decide (cmp (fairI a).2.2 (fairI b).2.2 ≤ 0))
def has (x : Iv) (n : Nm) : Bool := !(mkI n n).1 && within (mkI n n) x
def most (l : List Nm) : Nm := l.foldl (fun a n => if cmp n a > 0 then fair n else a) (inf true)
def least (l : List Nm) : Nm := l.foldl (fun a n => if cmp n a < 0 then fair n else a) (inf false)
def losOf (l : List Iv) : List Nm := (l.filter (fun x => !(fairI x).1)).map (fun x => (fairI x).2.1)
def hisOf (l : List Iv) : List Nm := (l.filter (fun x => !(fairI x).1)).map (fun x => (fairI x).2.2)
def meet (l : List Iv) : Iv := if l.all (fun x => !(fairI x).1) then mkI (most (losOf l)) (least (hisOf l)) else noneI
def hull (l : List Iv) : Iv := if losOf l = [] then noneI else mkI (least (losOf l)) (most (hisOf l))
def two (a b : Iv) : Iv := if (fairI a).1 || (fairI b).1 then noneI else mkI (most [(fairI a).2.1, (fairI b).2.1]) (least [(fairI a).2.2, (fairI b).2.2])
def both (a b : Iv) : Iv := if (fairI a).1 then fairI b else if (fairI b).1 then fairI a else mkI (least [(fairI a).2.1, (fairI b).2.1]) (most [(fairI a).2.2, (fairI b).2.2])

theorem iv_None_eq (k : Nat) : iv_None k = some (noneI, ()) := rfl
theorem iv_All_eq (k : Nat) : iv_All k = some (allI, ()) := rfl
theorem num_Inf_eq (k : Nat) (b : Bool) : num_Infinite k b = some (inf b, ()) := rfl
theorem iv_May_eq (k : Nat) (x : Iv) : iv_May k x = some (mayI x, ()) := by
  simp only [iv_May, iv_None_eq, num_May_eq, num_Cmp_eq, num_Inf_eq, Option.bind_some, beqI, beqN, mayI]
  obtain ⟨e, lo, hi⟩ := x
  cases e
  · by_cases hc : cmp lo hi ≤ 0
    · cases may lo <;> cases may hi <;> simp [cond_eq_ite, hc]
      split <;> simp_all
    · cases may lo <;> cases may hi <;> simp [cond_eq_ite, hc]
  · simp
theorem iv_fair_eq (k : Nat) (x : Iv) : iv_fair k x = some (fairI x, ()) := by
  simp only [iv_fair, iv_May_eq, iv_None_eq, Option.bind_some, fairI]
  cases mayI x <;> rfl
theorem num_Neg_eq (k : Nat) (n : Nm) : num_Neg k n = some (neg n, ()) := by
  simp only [num_Neg, num_fair_eq, Option.bind_some, neg, cond_eq_ite, bne_iff_ne]
  split <;> simp_all
theorem may_neg (n : Nm) : may (neg n) = true := by
  have h := may_cases (may_fair n)
  unfold neg
  generalize fair n = x at *
  obtain ⟨a, b, c, d⟩ := x
  simp only [may, Prod.mk.injEq] at *
  cases b <;> simp at h ⊢ <;> grind
theorem neg_neg (n : Nm) : neg (neg n) = fair n := by
  have h := may_neg n
  rw [neg, fair_may h]
  unfold neg
  have h := may_cases (may_fair n)
  generalize fair n = x at *
  obtain ⟨a, b, c, d⟩ := x
  simp only [Prod.mk.injEq] at *
  cases b <;> simp at h ⊢ <;> grind
theorem iv_Make_eq (k : Nat) (a b : Nm) : iv_Make k a b = some (mkI a b, ()) := by
  simp only [iv_Make, num_Neg_eq, iv_fair_eq, Option.bind_some, neg_neg, mkI]
theorem iv_Point_eq (k : Nat) (a : Nm) : iv_Point k a = some (mkI a a, ()) := by
  simp only [iv_Point, iv_Make_eq, Option.bind_some]
theorem iv_Within_eq (k : Nat) (a b : Iv) : iv_Within k a b = some (within a b, ()) := by
  simp only [iv_Within, iv_fair_eq, num_Cmp_eq, Option.bind_some, within]
  by_cases hc : cmp (fairI b).2.1 (fairI a).2.1 ≤ 0
  · cases (fairI a).1 <;> cases (fairI b).1 <;> simp [cond_eq_ite, hc]
  · cases (fairI a).1 <;> cases (fairI b).1 <;> simp [cond_eq_ite, hc]
theorem iv_Has_eq (k : Nat) (x : Iv) (n : Nm) : iv_Has k x n = some (has x n, ()) := by
  simp only [iv_Has, iv_Point_eq, iv_Within_eq, Option.bind_some, has]
  cases (mkI n n).1 <;> simp
/-! ### the loops over numbers and intervals -/
theorem at_mid {α : Type} (pre : List α) (x : α) (suf : List α) : (pre ++ x :: suf)[Int.toNat (pre.length : Int)]? = some x := by simp
theorem wrap_succ {n : Nat} (h : n ≤ 1000000000) : IntKind.i64.wrap ((n : Int) + 1) = ((n + 1 : Nat) : Int) := by
  rw [wrap_small (by omega) (by omega)]; rfl
theorem most_loop (k : Nat) : ∀ (s pre : List Nm) (m : Nat) (z a : Nm), s.length < m → pre.length + s.length ≤ 1000000 →
    num_Most_l0 k m (((), (), pre ++ s, ((pre ++ s).length : Int), (pre.length : Int), ()), (z, a, ())) = some (Sum.inl (((), (), ()), (z, s.foldl (fun a n => if cmp n a > 0 then fair n else a) a, ())))
  | [], pre, m + 1, z, a, hm, hl => by simp [num_Most_l0]
  | x :: s, pre, m + 1, z, a, hm, hl => by
    simp only [List.length_cons] at hm hl
    have ih := fun b => most_loop k s (pre ++ [x]) m z b (by omega) (by simp; omega)
    have hlt : (pre.length : Int) < ((pre ++ x :: s).length : Int) := by simp; omega
    simp only [num_Most_l0, decide_eq_true hlt, cond_true, if_pos (Int.natCast_nonneg pre.length), at_mid, Option.bind_some, num_Cmp_eq, num_fair_eq, wrap_succ (show pre.length ≤ 1000000000 by omega)]
    simp only [List.append_assoc, List.singleton_append, List.length_append, List.length_cons, List.length_nil, Nat.zero_add] at ih ⊢
    rw [List.foldl_cons]
    by_cases hc : cmp x a > 0
    · simp only [hc, decide_true, cond_true, if_true]; exact ih _
    · simp only [hc, decide_false, cond_false, if_false]; exact ih _
theorem num_Most_eq (k : Nat) (l : List Nm) (h : l.length < k) (h' : l.length ≤ 1000000) : num_Most k l = some (most l, ()) := by
  have := most_loop k l [] k zN (inf true) h (by simpa using h')
  simp only [List.nil_append, List.length_nil] at this
  simp only [num_Most, num_Inf_eq, Option.bind_some]
  rw [show ((0 : Nat) : Int) = 0 from rfl] at this
  rw [this]
  rfl
theorem least_loop (k : Nat) : ∀ (s pre : List Nm) (m : Nat) (z a : Nm), s.length < m → pre.length + s.length ≤ 1000000 →
    num_Least_l0 k m (((), (), pre ++ s, ((pre ++ s).length : Int), (pre.length : Int), ()), (z, a, ())) = some (Sum.inl (((), (), ()), (z, s.foldl (fun a n => if cmp n a < 0 then fair n else a) a, ())))
  | [], pre, m + 1, z, a, hm, hl => by simp [num_Least_l0]
  | x :: s, pre, m + 1, z, a, hm, hl => by
    simp only [List.length_cons] at hm hl
    have ih := fun b => least_loop k s (pre ++ [x]) m z b (by omega) (by simp; omega)
    have hlt : (pre.length : Int) < ((pre ++ x :: s).length : Int) := by simp; omega
    simp only [num_Least_l0, decide_eq_true hlt, cond_true, if_pos (Int.natCast_nonneg pre.length), at_mid, Option.bind_some, num_Cmp_eq, num_fair_eq, wrap_succ (show pre.length ≤ 1000000000 by omega)]
    simp only [List.append_assoc, List.singleton_append, List.length_append, List.length_cons, List.length_nil, Nat.zero_add] at ih ⊢
    rw [List.foldl_cons]
    by_cases hc : cmp x a < 0
    · simp only [hc, decide_true, cond_true, if_true]; exact ih _
    · simp only [hc, decide_false, cond_false, if_false]; exact ih _
theorem num_Least_eq (k : Nat) (l : List Nm) (h : l.length < k) (h' : l.length ≤ 1000000) : num_Least k l = some (least l, ()) := by
  have := least_loop k l [] k zN (inf false) h (by simpa using h')
  simp only [List.nil_append, List.length_nil] at this
  simp only [num_Least, num_Inf_eq, Option.bind_some]
  rw [show ((0 : Nat) : Int) = 0 from rfl] at this
  rw [this]
  rfl
theorem losOf_cons (x : Iv) (s : List Iv) : losOf (x :: s) = if (fairI x).1 then losOf s else (fairI x).2.1 :: losOf s := by
  simp only [losOf, List.filter_cons]
  cases (fairI x).1 <;> simp
theorem hisOf_cons (x : Iv) (s : List Iv) : hisOf (x :: s) = if (fairI x).1 then hisOf s else (fairI x).2.2 :: hisOf s := by
  simp only [hisOf, List.filter_cons]
  cases (fairI x).1 <;> simp
theorem losOf_le (s : List Iv) : (losOf s).length ≤ s.length := by simp only [losOf, List.length_map]; exact List.length_filter_le _ _
theorem hisOf_le (s : List Iv) : (hisOf s).length ≤ s.length := by simp only [hisOf, List.length_map]; exact List.length_filter_le _ _

theorem ends_loop (k : Nat) : ∀ (s pre : List Iv) (m : Nat) (al : Bool) (lo hi : List Nm), s.length < m → pre.length + s.length ≤ 1000000 → lo.length ≤ pre.length → hi.length ≤ pre.length →
    iv_ends_l0 k m (((), (), al, pre ++ s, ((pre ++ s).length : Int), (pre.length : Int), ()), (lo, hi, ())) = some (Sum.inl (((), (), al && s.all (fun x => !(fairI x).1), ()), (lo ++ losOf s, hi ++ hisOf s, ())))
  | [], pre, m + 1, al, lo, hi, hm, hl, h1, h2 => by simp [iv_ends_l0, losOf, hisOf]
  | x :: s, pre, m + 1, al, lo, hi, hm, hl, h1, h2 => by
    simp only [List.length_cons] at hm hl
    have ih := fun al lo hi h1 h2 => ends_loop k s (pre ++ [x]) m al lo hi (by omega) (by simp; omega) h1 h2
    have hlt : (pre.length : Int) < ((pre ++ x :: s).length : Int) := by simp; omega
    have g1 : (lo.length + [(fairI x).2.1].length) * 32 ≤ 140737488355328 := by simp; omega
    have g2 : (hi.length + [(fairI x).2.2].length) * 32 ≤ 140737488355328 := by simp; omega
    simp only [iv_ends_l0, decide_eq_true hlt, cond_true, if_pos (Int.natCast_nonneg pre.length), at_mid, Option.bind_some, iv_fair_eq, wrap_succ (show pre.length ≤ 1000000000 by omega), if_pos g1, if_pos g2]
    simp only [List.append_assoc, List.singleton_append, List.length_append, List.length_cons, List.length_nil, Nat.zero_add] at ih ⊢
    cases hc : (fairI x).1
    · have := ih al (lo ++ [(fairI x).2.1]) (hi ++ [(fairI x).2.2]) (by simp; omega) (by simp; omega)
      simp only [cond_false, losOf_cons, hisOf_cons, hc, List.all_cons, Bool.not_false, Bool.true_and]
      simpa using this
    · have := ih false lo hi (by omega) (by omega)
      simp only [cond_true, losOf_cons, hisOf_cons, hc, List.all_cons, Bool.not_true, Bool.false_and, Bool.and_false, if_true]
      simpa using this
theorem iv_ends_eq (k : Nat) (l : List Iv) (h : l.length < k) (h' : l.length ≤ 1000000) : iv_ends k l = some (losOf l, hisOf l, l.all (fun x => !(fairI x).1), ()) := by
  have := ends_loop k l [] k true [] [] h (by simpa using h') (by simp) (by simp)
  simp only [List.nil_append, List.length_nil, Bool.true_and] at this
  simp only [iv_ends]
  rw [show ((0 : Nat) : Int) = 0 from rfl] at this
  rw [this]
  rfl
theorem iv_Meet_eq (k : Nat) (l : List Iv) (h : l.length < k) (h' : l.length ≤ 1000000) : iv_Meet k l = some (meet l, ()) := by
  have h1 := losOf_le l
  have h2 := hisOf_le l
  simp only [iv_Meet, iv_ends_eq k l h h', Option.bind_some, iv_None_eq, num_Most_eq k (losOf l) (by omega) (by omega), num_Least_eq k (hisOf l) (by omega) (by omega), iv_Make_eq, meet]
  cases l.all (fun x => !(fairI x).1) <;> rfl
theorem meet_two (a b : Iv) : meet [a, b] = two a b := by
  simp only [meet, two, List.all_cons, List.all_nil, losOf_cons, hisOf_cons]
  cases (fairI a).1 <;> cases (fairI b).1 <;> simp [losOf, hisOf]
theorem iv_Meet2 (k : Nat) (a b : Iv) (h : 3 ≤ k) : iv_Meet k [a, b] = some (two a b, ()) := by
  rw [iv_Meet_eq k _ (by simp; omega) (by simp), meet_two]
/-! ### laws of intervals -/
theorem fair_inf {n : Nm} (h : (fair n).1 = 2) : fair n = inf (fair n).2.1 := by
  have := may_cases (may_fair n)
  generalize fair n = x at *
  obtain ⟨x1, x2, x3, x4⟩ := x
  simp only [Prod.mk.injEq] at this h ⊢
  grind
theorem mayI_iff {lo hi : Nm} : mayI (false, lo, hi) = true ↔ may lo = true ∧ may hi = true ∧ cmp lo hi ≤ 0 ∧ lo ≠ inf false ∧ hi ≠ inf true := by
  simp [mayI]
  grind
theorem mayI_noneI : mayI noneI = true := by decide
theorem mayI_fairI (x : Iv) : mayI (fairI x) = true := by
  unfold fairI
  split
  · assumption
  · exact mayI_noneI
theorem fairI_may {x : Iv} (h : mayI x = true) : fairI x = x := if_pos h
theorem fairI_fairI (x : Iv) : fairI (fairI x) = fairI x := fairI_may (mayI_fairI x)
theorem mayI_none {x : Iv} (h : mayI x = true) (h1 : x.1 = true) : x = noneI := by
  simp only [mayI, h1, if_true, decide_eq_true_eq] at h
  exact h
theorem mayI_full {x : Iv} (h : mayI x = true) (h1 : x.1 = false) : x = (false, x.2.1, x.2.2) ∧ may x.2.1 = true ∧ may x.2.2 = true ∧ cmp x.2.1 x.2.2 ≤ 0 ∧ x.2.1 ≠ inf false ∧ x.2.2 ≠ inf true := by
  obtain ⟨e, lo, hi⟩ := x
  simp only at h1
  subst h1
  exact ⟨rfl, mayI_iff.1 h⟩
theorem mkI_may {lo hi : Nm} (h1 : cmp lo hi ≤ 0) (h2 : fair lo ≠ inf false) (h3 : fair hi ≠ inf true) : mkI lo hi = (false, fair lo, fair hi) := by
  unfold mkI
  rw [fairI_may]
  rw [mayI_iff]
  exact ⟨may_fair _, may_fair _, by rw [cmp_fair_l, cmp_fair_r]; exact h1, h2, h3⟩
theorem mayI_mkI (lo hi : Nm) : mayI (mkI lo hi) = true := mayI_fairI _
theorem mkI_cases (lo hi : Nm) : mkI lo hi = noneI ∨ (mkI lo hi = (false, fair lo, fair hi) ∧ cmp lo hi ≤ 0 ∧ fair lo ≠ inf false ∧ fair hi ≠ inf true) := by
  unfold mkI fairI
  split
  · rename_i h
    rw [mayI_iff, cmp_fair_l, cmp_fair_r] at h
    exact .inr ⟨rfl, h.2.2⟩
  · exact .inl rfl
theorem mkI_point (n : Nm) : mkI n n = if (fair n).1 = 2 then noneI else (false, fair n, fair n) := by
  split
  · rename_i h
    have := fair_inf h
    rcases mkI_cases n n with e | ⟨_, _, h2, h3⟩
    · exact e
    · cases hb : (fair n).2.1 <;> rw [hb] at this
      · exact absurd this h2
      · exact absurd this h3
  · rename_i h
    exact mkI_may (by rw [cmp_self]; decide) (fun e => h (by rw [e])) (fun e => h (by rw [e]))
def hasR (x : Iv) (n : Nm) : Bool := !(fairI x).1 && (fair n).1 != 2 && decide (cmp (fairI x).2.1 n ≤ 0) && decide (cmp n (fairI x).2.2 ≤ 0)
theorem has_eq (x : Iv) (n : Nm) : has x n = hasR x n := by
  unfold has hasR
  rw [mkI_point]
  split
  · rename_i h; simp [h]
  · rename_i h
    have hm : fairI (false, fair n, fair n) = (false, fair n, fair n) := by
      have := mkI_point n
      rw [if_neg h] at this
      rw [← this, mkI, fairI_fairI]
    simp only [within, hm, Bool.not_false, Bool.true_and, Bool.false_or, cmp_fair_l, cmp_fair_r]
    have h' : ((fair n).1 != 2) = true := by simpa using h
    rw [h', Bool.and_true]
theorem cmp_inf (n : Nm) : cmp n (inf false) ≤ 0 := by
  rw [cmp_le]
  have h := may_cases (may_fair n)
  rw [fair_may (may_inf false)]
  generalize fair n = x at *
  obtain ⟨x1, x2, x3, x4⟩ := x
  simp only [tri, tlt, Prod.mk.injEq] at *
  cases x2 <;> simp at h ⊢ <;> grind
theorem cmp_inf' (n : Nm) : cmp (inf true) n ≤ 0 := by
  rw [cmp_le]
  have h := may_cases (may_fair n)
  rw [fair_may (may_inf true)]
  generalize fair n = x at *
  obtain ⟨x1, x2, x3, x4⟩ := x
  simp only [tri, tlt, Prod.mk.injEq] at *
  cases x2 <;> simp at h ⊢ <;> grind
/-- What the least of some is. -/
theorem least_fold (l : List Nm) : ∀ a, may a = true → (may (l.foldl (fun a n => if cmp n a < 0 then fair n else a) a) = true ∧ cmp (l.foldl (fun a n => if cmp n a < 0 then fair n else a) a) a ≤ 0 ∧
    (∀ n ∈ l, cmp (l.foldl (fun a n => if cmp n a < 0 then fair n else a) a) n ≤ 0) ∧ (l.foldl (fun a n => if cmp n a < 0 then fair n else a) a = a ∨ ∃ n ∈ l, l.foldl (fun a n => if cmp n a < 0 then fair n else a) a = fair n)) := by
  induction l with
  | nil => intro a h; simp [h, cmp_self]
  | cons x l ih =>
    intro a h
    rw [List.foldl_cons]
    by_cases hc : cmp x a < 0
    · rw [if_pos hc]
      obtain ⟨h1, h2, h3, h4⟩ := ih (fair x) (may_fair x)
      rw [cmp_fair_r] at h2
      refine ⟨h1, cmp_le_trans h2 (by omega), fun n hn => ?_, ?_⟩
      · rcases List.mem_cons.1 hn with e | hn
        · subst e; exact h2
        · exact h3 n hn
      · rcases h4 with h4 | ⟨n, hn, h4⟩
        · exact .inr ⟨x, List.mem_cons_self, h4⟩
        · exact .inr ⟨n, List.mem_cons_of_mem _ hn, h4⟩
    · rw [if_neg hc]
      obtain ⟨h1, h2, h3, h4⟩ := ih a h
      refine ⟨h1, h2, fun n hn => ?_, ?_⟩
      · rcases List.mem_cons.1 hn with e | hn
        · subst e; exact cmp_le_trans h2 (by have := cmp_swap n a; omega)
        · exact h3 n hn
      · rcases h4 with h4 | ⟨n, hn, h4⟩
        · exact .inl h4
        · exact .inr ⟨n, List.mem_cons_of_mem _ hn, h4⟩
theorem most_fold (l : List Nm) : ∀ a, may a = true → (may (l.foldl (fun a n => if cmp n a > 0 then fair n else a) a) = true ∧ cmp a (l.foldl (fun a n => if cmp n a > 0 then fair n else a) a) ≤ 0 ∧
    (∀ n ∈ l, cmp n (l.foldl (fun a n => if cmp n a > 0 then fair n else a) a) ≤ 0) ∧ (l.foldl (fun a n => if cmp n a > 0 then fair n else a) a = a ∨ ∃ n ∈ l, l.foldl (fun a n => if cmp n a > 0 then fair n else a) a = fair n)) := by
  induction l with
  | nil => intro a h; simp [h, cmp_self]
  | cons x l ih =>
    intro a h
    rw [List.foldl_cons]
    by_cases hc : cmp x a > 0
    · rw [if_pos hc]
      obtain ⟨h1, h2, h3, h4⟩ := ih (fair x) (may_fair x)
      rw [cmp_fair_l] at h2
      refine ⟨h1, cmp_le_trans (b := x) (by have := cmp_swap x a; omega) h2, fun n hn => ?_, ?_⟩
      · rcases List.mem_cons.1 hn with e | hn
        · subst e; exact h2
        · exact h3 n hn
      · rcases h4 with h4 | ⟨n, hn, h4⟩
        · exact .inr ⟨x, List.mem_cons_self, h4⟩
        · exact .inr ⟨n, List.mem_cons_of_mem _ hn, h4⟩
    · rw [if_neg hc]
      obtain ⟨h1, h2, h3, h4⟩ := ih a h
      refine ⟨h1, h2, fun n hn => ?_, ?_⟩
      · rcases List.mem_cons.1 hn with e | hn
        · subst e; exact cmp_le_trans (by omega) h2
        · exact h3 n hn
      · rcases h4 with h4 | ⟨n, hn, h4⟩
        · exact .inl h4
        · exact .inr ⟨n, List.mem_cons_of_mem _ hn, h4⟩
theorem least_may (l : List Nm) : may (least l) = true := (least_fold l _ (may_inf false)).1
theorem most_may (l : List Nm) : may (most l) = true := (most_fold l _ (may_inf true)).1
theorem least_le {l : List Nm} {n : Nm} (h : n ∈ l) : cmp (least l) n ≤ 0 := (least_fold l _ (may_inf false)).2.2.1 n h
theorem most_ge {l : List Nm} {n : Nm} (h : n ∈ l) : cmp n (most l) ≤ 0 := (most_fold l _ (may_inf true)).2.2.1 n h
theorem least_mem (l : List Nm) : least l = inf false ∨ ∃ n ∈ l, least l = fair n := (least_fold l _ (may_inf false)).2.2.2
theorem most_mem (l : List Nm) : most l = inf true ∨ ∃ n ∈ l, most l = fair n := (most_fold l _ (may_inf true)).2.2.2
theorem le_least {l : List Nm} {x : Nm} (h : ∀ n ∈ l, cmp x n ≤ 0) : cmp x (least l) ≤ 0 := by
  rcases least_mem l with e | ⟨n, hn, e⟩
  · rw [e]; exact cmp_inf x
  · rw [e, cmp_fair_r]; exact h n hn
theorem most_le {l : List Nm} {x : Nm} (h : ∀ n ∈ l, cmp n x ≤ 0) : cmp (most l) x ≤ 0 := by
  rcases most_mem l with e | ⟨n, hn, e⟩
  · rw [e]; exact cmp_inf' x
  · rw [e, cmp_fair_l]; exact h n hn
theorem least_congr {l l' : List Nm} (h : ∀ x, x ∈ l ↔ x ∈ l') : least l = least l' := by
  have := cmp_anti (le_least (l := l') (x := least l) fun n hn => least_le ((h n).2 hn)) (le_least (l := l) (x := least l') fun n hn => least_le ((h n).1 hn))
  rwa [fair_may (least_may l), fair_may (least_may l')] at this
theorem most_congr {l l' : List Nm} (h : ∀ x, x ∈ l ↔ x ∈ l') : most l = most l' := by
  have := cmp_anti (most_le (l := l) (x := most l') fun n hn => most_ge ((h n).1 hn)) (most_le (l := l') (x := most l) fun n hn => most_ge ((h n).2 hn))
  rwa [fair_may (most_may l), fair_may (most_may l')] at this
theorem mem_losOf {l : List Iv} {n : Nm} : n ∈ losOf l ↔ ∃ x ∈ l, (fairI x).1 = false ∧ (fairI x).2.1 = n := by simp [losOf, and_assoc]
theorem mem_hisOf {l : List Iv} {n : Nm} : n ∈ hisOf l ↔ ∃ x ∈ l, (fairI x).1 = false ∧ (fairI x).2.2 = n := by simp [hisOf, and_assoc]
theorem losOf_nil {l : List Iv} : losOf l = [] ↔ ∀ x ∈ l, (fairI x).1 = true := by simp [losOf]
theorem hull_congr {l l' : List Iv} (h : ∀ x, x ∈ l ↔ x ∈ l') : hull l = hull l' := by
  have h1 : ∀ n, n ∈ losOf l ↔ n ∈ losOf l' := fun n => by simp only [mem_losOf, h]
  have h2 : ∀ n, n ∈ hisOf l ↔ n ∈ hisOf l' := fun n => by simp only [mem_hisOf, h]
  have h3 : losOf l = [] ↔ losOf l' = [] := by simp only [losOf_nil, h]
  unfold hull
  rw [least_congr h1, most_congr h2]
  simp only [h3]
theorem fair_low {x : Iv} (h : (fairI x).1 = false) : may (fairI x).2.1 = true ∧ may (fairI x).2.2 = true ∧ cmp (fairI x).2.1 (fairI x).2.2 ≤ 0 ∧ (fairI x).2.1 ≠ inf false ∧ (fairI x).2.2 ≠ inf true ∧ fairI x = (false, (fairI x).2.1, (fairI x).2.2) :=
  let ⟨a, b⟩ := mayI_full (mayI_fairI x) h
  ⟨b.1, b.2.1, b.2.2.1, b.2.2.2.1, b.2.2.2.2, a⟩
theorem ne_inf_of_le {a b : Nm} (ha : may a = true) (hb : may b = true) (h : cmp a b ≤ 0) (h1 : b ≠ inf false) : a ≠ inf false := by
  rintro rfl
  have := cmp_anti h (cmp_inf b)
  rw [fair_may ha, fair_may hb] at this
  exact h1 this.symm
theorem ne_inf_of_ge {a b : Nm} (ha : may a = true) (hb : may b = true) (h : cmp a b ≤ 0) (h1 : a ≠ inf true) : b ≠ inf true := by
  rintro rfl
  have := cmp_anti h (cmp_inf' a)
  rw [fair_may ha, fair_may hb] at this
  exact h1 this
/-- The hull of some that are not all empty. -/
theorem hull_full {l : List Iv} (h : losOf l ≠ []) : hull l = (false, least (losOf l), most (hisOf l)) ∧ mayI (hull l) = true := by
  obtain ⟨n, hn⟩ := List.exists_mem_of_ne_nil _ h
  obtain ⟨x, hx, h1, h2⟩ := mem_losOf.1 hn
  have hh : (fairI x).2.2 ∈ hisOf l := mem_hisOf.2 ⟨x, hx, h1, rfl⟩
  have hlo : (fairI x).2.1 ∈ losOf l := mem_losOf.2 ⟨x, hx, h1, rfl⟩
  obtain ⟨g1, g2, g3, g4, g5, _⟩ := fair_low h1
  have e : hull l = (false, least (losOf l), most (hisOf l)) := by
    unfold hull
    rw [if_neg h, mkI_may (cmp_le_trans (least_le hlo) (cmp_le_trans g3 (most_ge hh))), fair_may (least_may _), fair_may (most_may _)]
    · rw [fair_may (least_may _)]; exact ne_inf_of_le (least_may _) g1 (least_le hlo) g4
    · rw [fair_may (most_may _)]; exact ne_inf_of_ge g2 (most_may _) (most_ge hh) g5
  refine ⟨e, ?_⟩
  unfold hull
  rw [if_neg h]
  exact mayI_mkI _ _
theorem mayI_hull (l : List Iv) : mayI (hull l) = true := by
  by_cases h : losOf l = []
  · unfold hull; rw [if_pos h]; exact mayI_noneI
  · exact (hull_full h).2
theorem losOf_append (l l' : List Iv) : losOf (l ++ l') = losOf l ++ losOf l' := by simp [losOf]
theorem hisOf_append (l l' : List Iv) : hisOf (l ++ l') = hisOf l ++ hisOf l' := by simp [hisOf]
theorem hisOf_nil {l : List Iv} : hisOf l = [] ↔ losOf l = [] := by simp [hisOf, losOf]
theorem least_one {n : Nm} (h : may n = true) : least [n] = n := by
  rcases least_mem [n] with e | ⟨m, hm, e⟩
  · have := cmp_anti (cmp_inf n) (by rw [← e]; exact least_le List.mem_cons_self)
    rw [fair_may h, fair_may (may_inf false)] at this
    rw [e, this]
  · rw [List.mem_singleton] at hm
    rw [e, hm, fair_may h]
theorem most_one {n : Nm} (h : may n = true) : most [n] = n := by
  rcases most_mem [n] with e | ⟨m, hm, e⟩
  · have := cmp_anti (by rw [← e]; exact most_ge List.mem_cons_self) (cmp_inf' n)
    rw [fair_may h, fair_may (may_inf true)] at this
    rw [e, this]
  · rw [List.mem_singleton] at hm
    rw [e, hm, fair_may h]
theorem least_append (l : List Nm) (n : Nm) : least (l ++ [n]) = least [least l, n] := by
  have h := cmp_anti (a := least (l ++ [n])) (b := least [least l, n])
    (le_least fun m hm => by
      simp only [List.mem_cons, List.not_mem_nil, or_false] at hm
      rcases hm with rfl | rfl
      · exact le_least fun a ha => least_le (by simp [ha])
      · exact least_le (by simp))
    (le_least fun m hm => by
      simp only [List.mem_append, List.mem_cons, List.not_mem_nil, or_false] at hm
      rcases hm with hm | rfl
      · exact cmp_le_trans (least_le (by simp)) (least_le hm)
      · exact least_le (by simp))
  rwa [fair_may (least_may _), fair_may (least_may _)] at h
theorem most_append (l : List Nm) (n : Nm) : most (l ++ [n]) = most [most l, n] := by
  have h := cmp_anti (a := most (l ++ [n])) (b := most [most l, n])
    (most_le fun m hm => by
      simp only [List.mem_append, List.mem_cons, List.not_mem_nil, or_false] at hm
      rcases hm with hm | rfl
      · exact cmp_le_trans (most_ge hm) (most_ge (by simp))
      · exact most_ge (by simp))
    (most_le fun m hm => by
      simp only [List.mem_cons, List.not_mem_nil, or_false] at hm
      rcases hm with rfl | rfl
      · exact most_le fun a ha => most_ge (by simp [ha])
      · exact most_ge (by simp))
  rwa [fair_may (most_may _), fair_may (most_may _)] at h
theorem hull_append (l : List Iv) (x : Iv) : hull (l ++ [x]) = both (hull l) x := by
  by_cases h : losOf l = []
  · have h0 : hull l = noneI := if_pos h
    have h1 : hisOf l = [] := hisOf_nil.2 h
    unfold both
    rw [h0, fairI_may mayI_noneI, if_pos rfl]
    unfold hull
    rw [losOf_append, hisOf_append, h, h1]
    simp only [List.nil_append, losOf_cons, hisOf_cons]
    cases hx : (fairI x).1
    · obtain ⟨g1, g2, g3, g4, g5, g6⟩ := fair_low hx
      simp only [losOf, hisOf]
      simp only [List.filter_nil, List.map_nil, Bool.false_eq_true, if_false]
      rw [if_neg (by simp), least_one g1, most_one g2, mkI_may g3 (by rwa [fair_may g1]) (by rwa [fair_may g2]), fair_may g1, fair_may g2]
      exact g6.symm
    · rw [mayI_none (mayI_fairI x) hx]
      simp [losOf]
  · obtain ⟨e, hm⟩ := hull_full h
    unfold both
    rw [fairI_may hm, e, if_neg (show ¬ (false = true) by decide)]
    cases hx : (fairI x).1
    · rw [if_neg (by decide)]
      conv => lhs; unfold hull
      rw [losOf_append, hisOf_append]
      simp only [losOf_cons, hisOf_cons, hx]
      simp only [losOf, hisOf, List.filter_nil, List.map_nil, Bool.false_eq_true, if_false]
      rw [if_neg (by simp), least_append, most_append]
    · rw [if_pos rfl, ← e]
      conv => lhs; unfold hull
      rw [losOf_append, hisOf_append]
      simp only [losOf_cons, hisOf_cons, hx]
      simp only [losOf, hisOf, List.filter_nil, List.map_nil, if_true, List.append_nil]
      rfl
theorem both_hull (a b : Iv) : both a b = hull [a, b] := by
  have e : hull [a, b] = both (hull [a]) b := hull_append [a] b
  have e1 : hull [a] = both (hull []) a := hull_append [] a
  have e2 : hull [] = noneI := rfl
  have e3 : both noneI a = fairI a := by unfold both; rw [fairI_may mayI_noneI, if_pos rfl]
  rw [e, e1, e2, e3]
  unfold both
  rw [fairI_fairI]
theorem hull_foldl (l s : List Iv) : s.foldl both (hull l) = hull (l ++ s) := by
  induction s generalizing l with
  | nil => simp
  | cons x s ih => rw [List.foldl_cons, ← hull_append, ih]; simp
/-! ### tubes: what they are, and what they have at a time -/
theorem wrap_pred {n : Nat} (h : n ≤ 1000000000) : IntKind.i64.wrap (((n + 1 : Nat) : Int) - 1) = (n : Int) := by
  rw [wrap_small (by omega) (by omega)]; omega
theorem cond_t {α : Type} {p : Prop} [Decidable p] (h : p) (a b : α) : cond (decide p) a b = a := by rw [decide_eq_true h]; rfl
theorem cond_f {α : Type} {p : Prop} [Decidable p] (h : ¬ p) (a b : α) : cond (decide p) a b = b := by rw [decide_eq_false h]; rfl
theorem beq_t {a b : Int} (h : a = b) : (a == b) = true := by simpa using h
theorem beq_f {a b : Int} (h : ¬ a = b) : (a == b) = false := by simpa using h
theorem len_lt {α : Type} (pre : List α) (x : α) (suf : List α) : (pre.length : Int) < ((pre ++ x :: suf).length : Int) := by simp; omega
theorem len_ge {α : Type} (pre : List α) : ¬ (pre.length : Int) < ((pre ++ []).length : Int) := by simp
theorem mid_eq {α : Type} (pre : List α) (x : α) (suf : List α) : (pre ++ [x]) ++ suf = pre ++ x :: suf := by simp
theorem len_snoc {α : Type} (pre : List α) (x : α) : (pre ++ [x]).length = pre.length + 1 := by simp

def finite (n : Nm) : Bool := may n && n.1 != 2
def okS : Nm → List Sl → Bool
  | _, [] => true
  | last, s :: r => finite s.1 && decide (cmp s.1 last > 0) && mayI s.2.1 && mayI s.2.2 && okS s.1 r
def mayT (t : Tb) : Bool := finite t.1 && mayI t.2.1 && decide (t.2.2.length ≤ 64) && okS t.1 t.2.2
def emptyT (t : Tb) : Bool := t.2.1.1 || t.2.2.any (fun s => s.2.1.1 || s.2.2.1)

theorem tube_finite_eq (k : Nat) (n : Nm) : tube_finite k n = some (finite n, ()) := by
  simp only [tube_finite, num_May_eq, Option.bind_some, finite]
  cases may n <;> rfl
theorem may_loop (k : Nat) : ∀ (s pre : List Sl) (m : Nat) (last : Nm), s.length < m → pre.length + s.length ≤ 1000000 →
    tube_May_l0 k m (((), pre ++ s, ((pre ++ s).length : Int), (pre.length : Int), ()), (last, ())) = some (bif okS last s then Sum.inr (Sum.inl ((), ())) else Sum.inl ((false, ()), ()))
  | [], pre, m + 1, last, hm, hl => by simp [tube_May_l0, okS]
  | x :: s, pre, m + 1, last, hm, hl => by
    simp only [List.length_cons] at hm hl
    have ih := may_loop k s (pre ++ [x]) m x.1 (by omega) (by simp; omega)
    simp only [tube_May_l0, cond_t (len_lt pre x s), if_pos (Int.natCast_nonneg pre.length), at_mid, Option.bind_some, tube_finite_eq, num_Cmp_eq, iv_May_eq, wrap_succ (show pre.length ≤ 1000000000 by omega)]
    rw [mid_eq, len_snoc] at ih
    rw [ih]
    simp only [okS]
    by_cases hc : cmp x.1 last ≤ 0
    · have hc' : ¬ cmp x.1 last > 0 := by omega
      cases finite x.1 <;> simp [hc, hc']
    · have hc' : cmp x.1 last > 0 := by omega
      cases finite x.1 <;> cases mayI x.2.1 <;> cases mayI x.2.2 <;> simp [hc, hc']
theorem tube_May_eq (k : Nat) (hk : 100 ≤ k) (t : Tb) : tube_May k t = some (mayT t, ()) := by
  simp only [tube_May, tube_finite_eq, iv_May_eq, Option.bind_some, mayT]
  by_cases hl : t.2.2.length ≤ 64
  · have hl' : ¬ (t.2.2.length : Int) > 64 := by omega
    have h := may_loop k t.2.2 [] k t.1 (by omega) (by simp; omega)
    simp only [List.nil_append, List.length_nil] at h
    rw [show ((0 : Nat) : Int) = 0 from rfl] at h
    rw [cond_f hl', h]
    cases finite t.1 <;> cases mayI t.2.1 <;> cases okS t.1 t.2.2 <;> simp [hl]
  · have hl' : (t.2.2.length : Int) > 64 := by omega
    rw [cond_t hl']
    cases finite t.1 <;> cases mayI t.2.1 <;> simp [hl]
theorem mayT_len {t : Tb} (h : mayT t = true) : t.2.2.length ≤ 64 := by
  simp only [mayT, Bool.and_eq_true, decide_eq_true_eq] at h; exact h.1.2

/-! empty -/
theorem empty_loop (k : Nat) : ∀ (s pre : List Sl) (m : Nat), s.length < m → pre.length + s.length ≤ 1000000 → ∃ i : Nat,
    tube_Empty_l0 k m ((false, pre ++ s, (), ((pre ++ s).length : Int), (pre.length : Int), ()), ()) = some (bif s.any (fun s => s.2.1.1 || s.2.2.1) then Sum.inl ((false, (i : Int), ()), ()) else Sum.inr (Sum.inl ((false, ()), ())))
  | [], pre, m + 1, hm, hl => ⟨0, by simp [tube_Empty_l0]⟩
  | x :: s, pre, m + 1, hm, hl => by
    simp only [List.length_cons] at hm hl
    obtain ⟨i, ih⟩ := empty_loop k s (pre ++ [x]) m (by omega) (by simp; omega)
    rw [mid_eq, len_snoc] at ih
    by_cases hx : (x.2.1.1 || x.2.2.1) = true
    · refine ⟨pre.length, ?_⟩
      simp only [tube_Empty_l0, cond_t (len_lt pre x s), if_pos (Int.natCast_nonneg pre.length), at_mid, Option.bind_some, tube_Empty_1, List.any_cons, hx, Bool.true_or, cond_true]
      cases h1 : x.2.1.1
      · rw [h1, Bool.false_or] at hx
        simp [hx]
      · simp
    · refine ⟨i, ?_⟩
      simp only [tube_Empty_l0, cond_t (len_lt pre x s), if_pos (Int.natCast_nonneg pre.length), at_mid, Option.bind_some, tube_Empty_1, List.any_cons, wrap_succ (show pre.length ≤ 1000000000 by omega)]
      rw [ih]
      simp only [Bool.or_eq_true, not_or, Bool.not_eq_true] at hx
      simp [hx.1, hx.2]
theorem tube_Empty_eq (k : Nat) (hk : 100 ≤ k) (t : Tb) : tube_Empty k t = some (!mayT t || emptyT t, ()) := by
  simp only [tube_Empty, tube_May_eq k hk, Option.bind_some]
  cases hm : mayT t
  · simp
  · have hl := mayT_len hm
    obtain ⟨i, h⟩ := empty_loop k t.2.2 [] k (by omega) (by simp; omega)
    simp only [List.nil_append, List.length_nil] at h
    rw [show ((0 : Nat) : Int) = 0 from rfl] at h
    simp only [Bool.not_true, cond_false]
    rw [h]
    simp only [emptyT]
    cases t.2.1.1
    · cases t.2.2.any (fun s => s.2.1.1 || s.2.2.1) <;> simp
    · simp
/-! gates -/
def wn (st : Nm) (pre : List Sl) : Nm := match pre.getLast? with | none => st | some p => p.1
theorem wn_nil (st : Nm) : wn st [] = st := rfl
theorem wn_snoc (st : Nm) (pre : List Sl) (p : Sl) : wn st (pre ++ [p]) = p.1 := by simp [wn]
def hd (g : Nm × Iv) (pre : List Sl) : Nm × Iv := match pre.getLast? with | none => g | some p => (p.1, two p.2.2 p.2.1)
theorem hd_nil (g : Nm × Iv) : hd g [] = g := rfl
theorem hd_snoc (g : Nm × Iv) (pre : List Sl) (p : Sl) : hd g (pre ++ [p]) = (p.1, two p.2.2 p.2.1) := by simp [hd]
theorem hd_fst (g : Nm × Iv) (pre : List Sl) : (hd g pre).1 = wn g.1 pre := by
  unfold hd wn; cases pre.getLast? <;> rfl
def nx (x : Iv) : List Sl → Iv
  | [] => x
  | s :: _ => two x s.2.1
/-- The gates, and what each has, met with the slices at it. -/
def gatesL (h : Nm × Iv) : List Sl → List (Nm × Iv)
  | [] => [(h.1, h.2)]
  | s :: r => (h.1, two h.2 s.2.1) :: gatesL (s.1, two s.2.2 s.2.1) r
@[simp] def tailG : List Sl → List (Nm × Iv)
  | [] => []
  | s :: r => gatesL (s.1, two s.2.2 s.2.1) r
theorem gatesL_eq (h : Nm × Iv) (l : List Sl) : gatesL h l = (h.1, nx h.2 l) :: tailG l := by cases l <;> rfl
theorem tube_end_eq (k : Nat) (t : Tb) (h : t.2.2.length ≤ 1000000) : tube_end k t = some (wn t.1 t.2.2, ()) := by
  obtain ⟨st, inn, l⟩ := t
  simp only [tube_end]
  rcases List.eq_nil_or_concat l with rfl | ⟨pre, p, rfl⟩
  · simp [wn]
  · simp only [List.concat_eq_append] at h ⊢
    rw [wn_snoc, len_snoc]
    have h1 : ((pre.length + 1 : Nat) : Int) > 0 := by omega
    rw [len_snoc] at h
    simp only [cond_t h1, wrap_pred (show pre.length ≤ 1000000000 by omega), if_pos (Int.natCast_nonneg pre.length), at_mid, Option.bind_some]
/-! ### what there is at a time -/
def findG (n : Nm) (l : List (Nm × Iv)) : Option (Nm × Iv) := l.find? (fun h => decide (cmp n h.1 = 0))
theorem findG_cons (n : Nm) (h : Nm × Iv) (l : List (Nm × Iv)) : findG n (h :: l) = if cmp n h.1 = 0 then some h else findG n l := by
  unfold findG
  rw [List.find?_cons]
  by_cases hc : cmp n h.1 = 0 <;> simp [hc]
def scanR (n : Nm) : Nm → List Sl → Option Iv
  | _, [] => none
  | w, s :: r => if cmp w n < 0 ∧ cmp n s.1 < 0 then some s.2.1 else scanR n s.1 r
def atL (n : Nm) (t : Tb) : Iv := match findG n (gatesL (t.1, t.2.1) t.2.2) with
  | some h => h.2
  | none => (scanR n t.1 t.2.2).getD allI
def atT (t : Tb) (n : Nm) : Iv := if mayT t then atL n t else noneI

theorem scan_found (n : Nm) : ∀ (w : Nm) (l : List Sl) (x : Iv), okS w l = true → findG n (gatesL (w, x) l) = none →
    scanR n w l = match l.find? (fun s => decide (cmp n s.1 < 0)) with | none => none | some s => if cmp n w < 0 then none else some s.2.1
  | w, [], x, h, hg => rfl
  | w, s :: l, x, h, hg => by
    simp only [okS, Bool.and_eq_true, decide_eq_true_eq] at h
    obtain ⟨⟨⟨⟨_, h2⟩, _⟩, _⟩, h5⟩ := h
    rw [gatesL, findG_cons] at hg
    split at hg
    · cases hg
    rename_i hne
    have ih := scan_found n s.1 l _ h5 hg
    have hs : cmp n s.1 ≠ 0 := by
      rw [gatesL_eq, findG_cons] at hg
      intro e
      rw [if_pos e] at hg; cases hg
    have e1 := cmp_swap n s.1
    have e2 := cmp_swap n w
    have e3 := cmp_swap s.1 w
    rw [scanR, ih, List.find?_cons]
    simp only at hne
    by_cases hw : cmp n w < 0
    · have h4 : cmp n s.1 < 0 := cmp_lt_of_lt_le hw (by omega)
      have h6 : ¬ cmp w n < 0 := by omega
      simp only [h4, h6, hw, decide_true, false_and, if_false, if_true]
      cases l.find? (fun s => decide (cmp n s.1 < 0)) <;> rfl
    · have h6 : cmp w n < 0 := by omega
      by_cases h4 : cmp n s.1 < 0
      · simp only [h4, h6, hw, decide_true, and_self, if_true, if_false]
      · simp only [h4, hw, decide_false, and_false, if_false]
/-! ### the document's At, Over; Over -/
/-! over an interval -/
def gIn (x : Iv) (l : List (Nm × Iv)) : List Iv := (l.filter (fun h => has x h.1)).map (·.2)
def sIn (x : Iv) : Nm → List Sl → List Iv
  | _, [] => []
  | w, s :: r => if cmp x.2.1 s.1 < 0 ∧ cmp w x.2.2 < 0 ∧ cmp x.2.1 x.2.2 < 0 then s.2.1 :: sIn x s.1 r else sIn x s.1 r
def overT (t : Tb) (x : Iv) : Iv :=
  if mayT t && !x.1 && mayI x then
    if cmp x.2.1 t.1 < 0 ∨ cmp x.2.2 (wn t.1 t.2.2) > 0 then allI
    else hull ([atT t x.2.1, atT t x.2.2] ++ sIn x t.1 t.2.2 ++ gIn x (gatesL (t.1, t.2.1) t.2.2))
  else noneI
/-! ### over an interval: the program's own -/
def ovL (x : Iv) (w : Nm) (h : Nm × Iv) (al : Option Iv) : List Sl → List Iv
  | [] => (if has x h.1 then [h.2] else []) ++ (match al with | some a => if cmp x.2.1 x.2.2 < 0 ∧ cmp x.2.1 h.1 < 0 ∧ cmp w x.2.2 < 0 then [a] else [] | none => [])
  | s :: r => (if has x h.1 then [two h.2 s.2.1] else []) ++ (match al with | some a => if cmp x.2.1 x.2.2 < 0 ∧ cmp x.2.1 h.1 < 0 ∧ cmp w x.2.2 < 0 then [a] else [] | none => []) ++ ovL x h.1 (s.1, two s.2.2 s.2.1) (some s.2.1) r
def tailO (x : Iv) (h : Nm × Iv) : List Sl → List Iv
  | [] => []
  | s :: r => ovL x h.1 (s.1, two s.2.2 s.2.1) (some s.2.1) r
theorem ovL_eq (x : Iv) (w : Nm) (h : Nm × Iv) (al : Option Iv) (s : List Sl) : ovL x w h al s = (if has x h.1 then [nx h.2 s] else []) ++ (match al with | some a => if cmp x.2.1 x.2.2 < 0 ∧ cmp x.2.1 h.1 < 0 ∧ cmp w x.2.2 < 0 then [a] else [] | none => []) ++ tailO x h s := by
  cases s
  · simp [ovL, tailO, nx]
  · simp [ovL, tailO, nx]
def lastAll (pre : List Sl) : Option Iv := pre.getLast?.map (·.2.1)

theorem mem_ovL (x : Iv) (a : Iv) : ∀ (s : List Sl) (w : Nm) (h : Nm × Iv) (al : Option Iv), a ∈ ovL x w h al s ↔ ((∃ b, al = some b ∧ a = b ∧ cmp x.2.1 x.2.2 < 0 ∧ cmp x.2.1 h.1 < 0 ∧ cmp w x.2.2 < 0) ∨ a ∈ sIn x h.1 s ∨ a ∈ gIn x (gatesL h s)) := by
  intro s
  induction s with
  | nil =>
    intro w h al
    simp only [ovL, sIn, gatesL, gIn, List.filter_cons, List.filter_nil]
    cases al with
    | none => cases has x h.1 <;> simp
    | some b =>
      by_cases hc : cmp x.2.1 x.2.2 < 0 ∧ cmp x.2.1 h.1 < 0 ∧ cmp w x.2.2 < 0
      · cases has x h.1 <;> simp [hc] <;> grind
      · cases has x h.1 <;> simp [hc] <;> grind
  | cons y r ih =>
    intro w h al
    simp only [ovL, sIn, gatesL, gIn, List.filter_cons, List.mem_append]
    rw [ih]
    simp only [gIn]
    cases al with
    | none =>
      by_cases hc : cmp x.2.1 y.1 < 0 ∧ cmp h.1 x.2.2 < 0 ∧ cmp x.2.1 x.2.2 < 0
      · cases has x h.1 <;> simp [hc] <;> grind
      · cases has x h.1 <;> simp [hc] <;> grind
    | some b =>
      by_cases hc : cmp x.2.1 y.1 < 0 ∧ cmp h.1 x.2.2 < 0 ∧ cmp x.2.1 x.2.2 < 0
      · by_cases hd : cmp x.2.1 x.2.2 < 0 ∧ cmp x.2.1 h.1 < 0 ∧ cmp w x.2.2 < 0
        · cases has x h.1 <;> simp [hc, hd] <;> grind
        · cases has x h.1 <;> simp [hc, hd] <;> grind
      · by_cases hd : cmp x.2.1 x.2.2 < 0 ∧ cmp x.2.1 h.1 < 0 ∧ cmp w x.2.2 < 0
        · cases has x h.1 <;> simp [hc, hd] <;> grind
        · cases has x h.1 <;> simp [hc, hd] <;> grind
/-! ### fitted tubes -/
def g2 (s : Sl) : Option Sl → Iv
  | none => two s.2.2 s.2.1
  | some s' => two (two s.2.2 s.2.1) s'.2.1
def fitN : List Sl → Option Sl → List Sl
  | [], _ => []
  | [s], nx => [(s.1, s.2.1, g2 s nx)]
  | s :: s' :: r, nx => (s.1, s.2.1, g2 s (some s')) :: fitN (s' :: r) nx
theorem fitN_cons (s : Sl) (r : List Sl) (n : Option Sl) : fitN (s :: r) n = (s.1, s.2.1, g2 s (r.head?.or n)) :: fitN r n := by cases r <;> rfl
theorem fitN_snoc (pre : List Sl) (p : Sl) (n : Option Sl) : fitN (pre ++ [p]) n = fitN pre (some p) ++ [(p.1, p.2.1, g2 p n)] := by
  induction pre with
  | nil => rfl
  | cons s r ih => rw [List.cons_append, fitN_cons, ih, fitN_cons]; cases r <;> rfl
theorem fitN_len (l : List Sl) (n : Option Sl) : (fitN l n).length = l.length := by
  induction l with
  | nil => rfl
  | cons s r ih => rw [fitN_cons]; simp [ih]
def voidS (s : Sl) : Sl := (s.1, noneI, noneI)
def fitU (t : Tb) : Tb := (t.1, nx t.2.1 t.2.2, fitN t.2.2 none)
def fitT (t : Tb) : Tb := if mayT t then (if emptyT (fitU t) then (t.1, noneI, t.2.2.map voidS) else fitU t) else t
theorem nx_g2 (p : Sl) (s : List Sl) : nx (two p.2.2 p.2.1) s = g2 p s.head? := by cases s <;> rfl

theorem mayI_two (a b : Iv) : mayI (two a b) = true := by
  unfold two
  split
  · exact mayI_noneI
  · exact mayI_mkI _ _
theorem mayI_g2 (s : Sl) (n : Option Sl) : mayI (g2 s n) = true := by cases n <;> exact mayI_two _ _
theorem mayI_nx {x : Iv} (h : mayI x = true) (l : List Sl) : mayI (nx x l) = true := by
  cases l
  · exact h
  · exact mayI_two _ _
theorem okS_fitN : ∀ (l : List Sl) (w : Nm) (n : Option Sl), okS w l = true → okS w (fitN l n) = true
  | [], _, _, _ => rfl
  | s :: r, w, n, h => by
    rw [fitN_cons]
    simp only [okS, Bool.and_eq_true] at h ⊢
    exact ⟨⟨h.1.1, mayI_g2 _ _⟩, okS_fitN r s.1 n h.2⟩
theorem mayT_fitU {t : Tb} (h : mayT t = true) : mayT (fitU t) = true := by
  simp only [mayT, Bool.and_eq_true, decide_eq_true_eq] at h ⊢
  exact ⟨⟨⟨h.1.1.1, mayI_nx h.1.1.2 _⟩, by simp only [fitU, fitN_len]; exact h.1.2⟩, okS_fitN _ _ _ h.2⟩

theorem set_mid {α : Type} (a : List α) (x y : α) (b : List α) (n : Nat) (h : a.length = n) : (a ++ x :: b).set (Int.toNat (n : Int)) y = a ++ y :: b := by
  subst h; simp
theorem get_mid {α : Type} (a : List α) (x : α) (b : List α) (n : Nat) (h : a.length = n) : (a ++ x :: b)[Int.toNat (n : Int)]? = some x := by
  subst h; simp

theorem fit_loop (k : Nat) (hk : 3 ≤ k) (D : Nm × Iv × List Sl) (st : Nm) (inn : Iv) : ∀ (m : Nat) (s pre : List Sl) (g : Nm × Iv) (I : Nm × Iv × Unit) (A : List Sl), s.length + 1 < m → pre.length + s.length ≤ 1000000 →
    (A = match pre.getLast? with | none => s | some p => fitN pre.dropLast (some p) ++ p :: s) → ∃ g', 
    tube_Fit_l0 k m (((), (), (), (), (), (((pre ++ s).length + 1 : Nat) : Int), (pre.length : Int), ()), (D, I, A, g, (st, inn, pre ++ s), ())) =
      some (Sum.inl (((), (), ()), (D, ((I.1, (if pre = [] then nx g.2 s else I.2.1), ()), g', ())))) ∧ g' = fitN (pre ++ s) none := by
  intro m
  induction m with
  | zero => intro s pre g I A hm; omega
  | succ m IH =>
    intro s pre g I A hm hl hA
    have hlt : (pre.length : Int) < (((pre ++ s).length + 1 : Nat) : Int) := by simp; omega
    have next : ∀ (g2' : Nm × Iv) (I2 : Nm × Iv × Unit) (A2 : List Sl), (s = [] → A2 = fitN pre none) → (∀ x r, s = x :: r → A2 = fitN pre (some x) ++ x :: r) → ∃ g', tube_Fit_l0 k m (((), (), (), (), (), (((pre ++ s).length + 1 : Nat) : Int), ((pre.length + 1 : Nat) : Int), ()), (D, I2, A2, g2', (st, inn, pre ++ s), ())) =
      some (Sum.inl (((), (), ()), (D, ((I2.1, I2.2.1, ()), g', ())))) ∧ g' = fitN (pre ++ s) none := by
      intro g2' I2 A2 h1 h2
      cases s with
      | nil =>
        cases m with
        | zero => simp at hm
        | succ m =>
          have h3 : ¬ ((pre.length + 1 : Nat) : Int) < (((pre ++ []).length + 1 : Nat) : Int) := by simp
          refine ⟨A2, ?_, by simpa using h1 rfl⟩
          simp only [tube_Fit_l0]
          rw [cond_f h3]
      | cons y r =>
        simp only [List.length_cons] at hm hl
        obtain ⟨g', ih, e⟩ := IH r (pre ++ [y]) g2' I2 A2 (by omega) (by simp; omega) (by simpa using h2 y r rfl)
        rw [mid_eq, len_snoc] at ih
        rw [mid_eq] at e
        exact ⟨g', by rw [ih]; simp, e⟩
    simp only [tube_Fit_l0]
    rw [cond_t hlt, wrap_succ (show pre.length ≤ 1000000000 by omega)]
    rcases List.eq_nil_or_concat pre with rfl | ⟨pre, p, rfl⟩
    · simp only [List.getLast?_nil] at hA
      subst hA
      have h0 : ¬ (([] : List Sl).length : Int) > 0 := by simp
      have h00 : ((([] : List Sl).length : Int) == 0) = true := rfl
      simp only [cond_f h0, h00, cond_true, if_true]
      cases A with
      | nil =>
        have h1 : ¬ (([] : List Sl).length : Int) < (([] ++ [] : List Sl).length : Int) := by simp
        simp only [cond_f h1, nx]
        exact next _ (I.1, g.2, ()) _ (fun _ => rfl) (fun _ _ h => by cases h)
      | cons y r =>
        have h1 : (([] : List Sl).length : Int) < (([] ++ y :: r : List Sl).length : Int) := by simp
        rw [cond_t h1, if_pos (Int.natCast_nonneg _), at_mid]
        simp only [Option.bind_some, nx, iv_Meet2 k _ _ hk]
        exact next _ (I.1, two g.2 y.2.1, ()) _ (fun h => by cases h) (fun x r h => by cases h; rfl)
    · simp only [List.concat_eq_append] at *
      rw [len_snoc] at hl
      simp only [List.getLast?_append, List.getLast?_singleton, Option.some_or, List.dropLast_concat] at hA
      subst hA
      have h0 : (((pre ++ [p]).length : Nat) : Int) > 0 := by simp
      have h00 : (((pre ++ [p]).length : Int) == 0) = false := by rw [len_snoc]; exact beq_f (by omega)
      have hne : ¬ (pre ++ [p] = []) := by simp
      have e1 : IntKind.i64.wrap (((pre ++ [p]).length : Int) - 1) = (pre.length : Int) := by rw [len_snoc]; exact wrap_pred (by omega)
      have e2 : (pre ++ [p] ++ s)[Int.toNat (pre.length : Int)]? = some p := by rw [mid_eq]; exact at_mid _ _ _
      simp only [cond_t h0, h00, cond_false, e1, e2, if_pos (Int.natCast_nonneg pre.length), Option.bind_some, iv_Meet2 k _ _ hk, get_mid _ p s _ (fitN_len pre (some p)), set_mid _ p _ s _ (fitN_len pre (some p)), hne, if_false]
      cases s with
      | nil =>
        have h1 : ¬ ((pre ++ [p]).length : Int) < ((pre ++ [p] ++ [] : List Sl).length : Int) := by simp
        simp only [cond_f h1]
        exact next _ (I.1, I.2.1, ()) _ (fun _ => by rw [fitN_snoc]; rfl) (fun _ _ h => by cases h)
      | cons y r =>
        have h1 : ((pre ++ [p]).length : Int) < ((pre ++ [p] ++ y :: r : List Sl).length : Int) := by simp; omega
        simp only [cond_t h1, if_pos (Int.natCast_nonneg (pre ++ [p]).length), at_mid, Option.bind_some]
        exact next _ (I.1, I.2.1, ()) _ (fun h => by cases h) (fun x r h => by cases h; rw [fitN_snoc]; simp [g2])
theorem void_loop (k : Nat) (D : Nm × Iv × List Sl) (I : Nm × Iv × Unit) : ∀ (m : Nat) (s pre : List Sl), s.length < m → pre.length + s.length ≤ 1000000 →
    tube_void_l0 k m (((), (), (), (((pre ++ s).length : Nat) : Int), (pre.length : Int), ()), (I, D, noneI, pre.map voidS ++ s, ())) = some (Sum.inl (((), (), ()), (I, D, (pre ++ s).map voidS, ()))) := by
  intro m
  induction m with
  | zero => intro s pre hm; omega
  | succ m IH =>
    intro s pre hm hl
    cases s with
    | nil => simp [tube_void_l0]
    | cons y s =>
      simp only [List.length_cons] at hm hl
      have ih := IH s (pre ++ [y]) (by omega) (by simp; omega)
      simp only [mid_eq, len_snoc] at ih
      simp only [tube_void_l0, cond_t (len_lt pre y s), if_pos (Int.natCast_nonneg pre.length), Option.bind_some, get_mid _ _ s pre.length (show (pre.map voidS).length = pre.length by simp), set_mid _ _ _ s pre.length (show (pre.map voidS).length = pre.length by simp), wrap_succ (show pre.length ≤ 1000000000 by omega)]
      rw [show pre.map voidS ++ (y.1, noneI, noneI) :: s = (pre ++ [y]).map voidS ++ s by simp [voidS], ih]
theorem tube_void_eq (k : Nat) (t : Tb) (h : t.2.2.length < k) (hl : t.2.2.length ≤ 1000000) : tube_void k t = some ((t.1, noneI, t.2.2.map voidS), ()) := by
  obtain ⟨st, inn, l⟩ := t
  simp only at h hl
  have h1 := void_loop k (zN, (false, (0, false, 0, 0), 0, false, 0, 0), []) (st, noneI, ()) k l [] h (by simp; omega)
  simp only [List.nil_append, List.length_nil, List.map_nil] at h1
  rw [show ((0 : Nat) : Int) = 0 from rfl] at h1
  have g1 : l.length * 176 ≤ 140737488355328 := by omega
  simp only [tube_void, iv_None_eq, Option.bind_some, if_pos g1]
  rw [h1]
  rfl
theorem emptyT_map (t : Tb) : emptyT (t.1, noneI, t.2.2.map voidS) = true := rfl
theorem fitN_ends (l : List Sl) (n : Option Sl) : (fitN l n).map voidS = l.map voidS := by
  induction l with
  | nil => rfl
  | cons s r ih => rw [fitN_cons]; simp [ih, voidS]
theorem tube_Fit_eq (k : Nat) (hk : 200 ≤ k) (t : Tb) : tube_Fit k t = some (fitT t, ()) := by
  simp only [tube_Fit, tube_May_eq k (show 100 ≤ k by omega), Option.bind_some, fitT]
  cases hm : mayT t
  · rfl
  · have hl := mayT_len hm
    have hm' := mayT_fitU hm
    obtain ⟨st, inn, l⟩ := t
    simp only at hl
    have g1 : l.length * 176 ≤ 140737488355328 := by omega
    obtain ⟨g', h1, rfl⟩ := fit_loop k (by omega) ((0, false, 0, 0), ((false, (0, false, 0, 0), 0, false, 0, 0), [])) st inn k l [] (st, inn) (st, (inn, ())) l (by omega) (by simp; omega) rfl
    simp only [List.nil_append, List.length_nil] at h1
    rw [show ((0 : Nat) : Int) = 0 from rfl] at h1
    simp only [Bool.not_true, cond_false, if_true, if_pos g1]
    rw [wrap_succ (by omega), h1]
    simp only [Option.bind_some, Sum.elim_inl, tube_Empty_eq k (show 100 ≤ k by omega), if_true]
    rw [show ((st, nx inn l, fitN l none) : Tb) = fitU (st, inn, l) from rfl, hm']
    cases he : emptyT (fitU (st, inn, l))
    · rfl
    · simp only [Bool.not_true, Bool.false_or, cond_true]
      rw [tube_void_eq k _ (by simp only [fitU, fitN_len]; omega) (by simp only [fitU, fitN_len]; omega)]
      simp [fitU, fitN_ends]
/-! ### the document's Fit; Gate, Set, Append, New, Same -/
abbrev zT : Tb := (zN, (false, zN, zN), [])
def gateT (t : Tb) (i : Int) : Iv := if mayT t = true ∧ 0 ≤ i ∧ i ≤ t.2.2.length then (if i = 0 then t.2.1 else ((t.2.2[(i - 1).toNat]?).map (·.2.2)).getD noneI) else noneI
def appT (t : Tb) (n : Nm) (a o : Iv) : Tb × Int :=
  if mayT t && finite n && mayI a && mayI o then (if 64 ≤ t.2.2.length then (zT, 3) else if cmp n (wn t.1 t.2.2) ≤ 0 then (zT, 6) else ((t.1, t.2.1, t.2.2 ++ [(n, a, o)]), 0)) else (zT, 1)
def newT (n : Nm) (x : Iv) : Tb × Int := if mayT (n, x, []) then ((n, x, []), 0) else (zT, 1)
def setO (l : List Sl) (i : Nat) (x : Iv) : List Sl := match l[i]? with | some s => l.set i (s.1, s.2.1, two s.2.2 x) | none => l
def setT (t : Tb) (i : Int) (x : Iv) : Tb × Int :=
  if mayT t && mayI x then (if i < 0 ∨ i > t.2.2.length then (zT, 7) else if i = 0 then (fitT (t.1, two t.2.1 x, t.2.2), 0) else (fitT (t.1, t.2.1, setO t.2.2 (i - 1).toNat x), 0)) else (zT, 1)

theorem tube_Gate_eq (k : Nat) (hk : 100 ≤ k) (t : Tb) (i : Int) : tube_Gate k t i = some (gateT t i, ()) := by
  simp only [tube_Gate, tube_May_eq k hk, iv_None_eq, Option.bind_some, gateT]
  cases hm : mayT t
  · simp
  · have hl := mayT_len hm
    by_cases h1 : i < 0
    · have : ¬ 0 ≤ i := by omega
      simp [h1, this]
    · by_cases h2 : i > t.2.2.length
      · have : ¬ i ≤ t.2.2.length := by omega
        simp [h1, h2, this]
      · simp only [Bool.not_true, cond_false, cond_f h1, cond_f h2]
        rw [if_pos (show (True ∧ 0 ≤ i ∧ i ≤ (t.2.2.length : Int)) from ⟨trivial, by omega, by omega⟩)]
        by_cases h3 : i = 0
        · simp [h3]
        · rw [beq_f h3, if_neg h3, wrap_small (by omega) (by omega), cond_false, if_pos (by omega)]
          obtain ⟨s, hs⟩ : ∃ s, t.2.2[(i - 1).toNat]? = some s := ⟨_, List.getElem?_eq_getElem (by omega)⟩
          rw [hs]; rfl
theorem tube_Append_eq (k : Nat) (hk : 100 ≤ k) (t : Tb) (n : Nm) (a o : Iv) : tube_Append k t n a o = some ((appT t n a o).1, (appT t n a o).2, ()) := by
  simp only [tube_Append, tube_May_eq k hk, tube_finite_eq, iv_May_eq, Option.bind_some, appT]
  cases hm : mayT t
  · simp
  · have hl := mayT_len hm
    rw [tube_end_eq k t (by omega)]
    have g1 : t.2.2.length * 176 ≤ 140737488355328 := by omega
    have g2 : (t.2.2.length + [(n, a, o)].length) * 176 ≤ 140737488355328 := by simp; omega
    simp only [num_Cmp_eq, Option.bind_some, if_pos g1, if_pos g2]
    cases finite n
    · simp
    · cases mayI a
      · simp
      · cases mayI o
        · simp
        · by_cases h1 : 64 ≤ t.2.2.length
          · have : (t.2.2.length : Int) ≥ 64 := by omega
            simp [h1, this]
          · have : ¬ (t.2.2.length : Int) ≥ 64 := by omega
            by_cases h2 : cmp n (wn t.1 t.2.2) ≤ 0
            · simp only [Bool.not_true, cond_false, cond_f this, cond_t h2, Bool.and_self, if_true, if_neg h1, if_pos h2]
            · simp only [Bool.not_true, cond_false, cond_f this, cond_f h2, Bool.and_self, if_true, if_neg h1, if_neg h2]
theorem tube_New_eq (k : Nat) (hk : 100 ≤ k) (n : Nm) (x : Iv) : tube_New k n x = some ((newT n x).1, (newT n x).2, ()) := by
  simp only [tube_New, tube_May_eq k hk, Option.bind_some, newT]
  cases mayT (n, x, []) <;> rfl
instance decTb : DecidableEq Tb := fun x y => decidable_of_iff (x.1 = y.1 ∧ x.2.1 = y.2.1 ∧ x.2.2 = y.2.2) ⟨fun h => Prod.ext h.1 (Prod.ext h.2.1 h.2.2), fun h => h ▸ ⟨rfl, rfl, rfl⟩⟩
/-! ### two tubes -/
def ends (l : List Sl) : List Nm := l.map (·.1)
def sameT (a b : Tb) : Bool := decide (a.1 = b.1) && decide (ends a.2.2 = ends b.2.2)
def timesT (a b : Tb) : Bool := mayT a && mayT b && sameT a b
def meetS (x y : Sl) : Sl := (x.1, two x.2.1 y.2.1, two x.2.2 y.2.2)
def meetT (a b : Tb) : Tb × Int := bif timesT a b then (fitT (a.1, two a.2.1 b.2.1, List.zipWith meetS a.2.2 b.2.2), 0) else (zT, 1)
def wiS (x y : Sl) : Bool := within x.2.1 y.2.1 && within x.2.2 y.2.2
def allW : List Sl → List Sl → Bool
  | x :: s, y :: r => wiS x y && allW s r
  | _, _ => true
def withinT (a b : Tb) : Bool := timesT a b && (emptyT a || (allW a.2.2 b.2.2 && within a.2.1 b.2.1))

theorem ends_cons (y : Sl) (s : List Sl) : ends (y :: s) = y.1 :: ends s := rfl
theorem ends_ne {a b : List Sl} (h : ¬ a.length = b.length) : ¬ ends a = ends b := fun e => h (by have := congrArg List.length e; simpa [ends] using this)
theorem sameT_len {a b : Tb} (h : sameT a b = true) : a.2.2.length = b.2.2.length := by
  simp only [sameT, Bool.and_eq_true, decide_eq_true_eq] at h
  have := congrArg List.length h.2
  simpa [ends] using this
/-! ### the laws of layer 17 -/
theorem fitT_len (t : Tb) : (fitT t).2.2.length = t.2.2.length := by
  unfold fitT
  repeat' split
  all_goals simp [fitU, fitN_len]
theorem appT_len (t : Tb) (n : Nm) (a o : Iv) : (appT t n a o).1.2.2.length ≤ t.2.2.length + 1 := by
  unfold appT
  repeat' split
  all_goals simp
theorem setT_len (t : Tb) (i : Int) (x : Iv) : (setT t i x).1.2.2.length ≤ t.2.2.length := by
  unfold setT setO
  repeat' split
  all_goals simp [fitT_len]
theorem newT_len (n : Nm) (x : Iv) : (newT n x).1.2.2.length = 0 := by
  unfold newT
  split <;> rfl
theorem meetT_len (a b : Tb) (h : a.2.2.length ≤ 70) : (meetT a b).1.2.2.length ≤ 70 := by
  unfold meetT
  cases timesT a b
  · simp
  · simp [fitT_len]; omega
/-! ### less -/
theorem within_none (b : Iv) : within noneI b = true := by
  unfold within; rw [fairI_may mayI_noneI]; rfl
theorem within_refl (a : Iv) : within a a = true := by
  unfold within
  cases (fairI a).1 <;> simp [cmp_self]
theorem within_iff {a b : Iv} : within a b = true ↔ (fairI a).1 = true ∨ ((fairI b).1 = false ∧ cmp (fairI b).2.1 (fairI a).2.1 ≤ 0 ∧ cmp (fairI a).2.2 (fairI b).2.2 ≤ 0) := by
  simp only [within, Bool.or_eq_true, Bool.and_eq_true, decide_eq_true_eq, Bool.not_eq_true', and_assoc]
theorem within_trans {a b c : Iv} (h1 : within a b = true) (h2 : within b c = true) : within a c = true := by
  rw [within_iff] at *
  rcases h1 with h1 | ⟨h1, h3, h4⟩
  · exact .inl h1
  · rcases h2 with h2 | ⟨h2, h5, h6⟩
    · rw [h1] at h2; cases h2
    · exact .inr ⟨h2, cmp_le_trans h5 h3, cmp_le_trans h4 h6⟩
theorem two_cases (a b : Iv) : two a b = noneI ∨ ((fairI a).1 = false ∧ (fairI b).1 = false ∧ two a b = (false, most [(fairI a).2.1, (fairI b).2.1], least [(fairI a).2.2, (fairI b).2.2])) := by
  unfold two
  cases ha : (fairI a).1 <;> cases hb : (fairI b).1
  · simp only [Bool.or_self, Bool.false_eq_true, if_false]
    rcases mkI_cases (most [(fairI a).2.1, (fairI b).2.1]) (least [(fairI a).2.2, (fairI b).2.2]) with h | ⟨h, _⟩
    · exact .inl h
    · right
      rw [h, fair_may (most_may _), fair_may (least_may _)]
      exact ⟨trivial, trivial, rfl⟩
  all_goals simp
theorem two_le_left (a b : Iv) : within (two a b) a = true := by
  rw [within_iff, fairI_may (mayI_two a b)]
  rcases two_cases a b with h | ⟨h1, h2, h3⟩
  · left; rw [h]
  · right
    rw [h3]
    exact ⟨h1, most_ge (by simp), least_le (by simp)⟩
theorem two_le_right (a b : Iv) : within (two a b) b = true := by
  rw [within_iff, fairI_may (mayI_two a b)]
  rcases two_cases a b with h | ⟨h1, h2, h3⟩
  · left; rw [h]
  · right
    rw [h3]
    exact ⟨h2, most_ge (by simp), least_le (by simp)⟩
theorem g2_le (s : Sl) (n : Option Sl) : within (g2 s n) s.2.2 = true := by
  cases n with
  | none => exact two_le_left _ _
  | some s' => exact within_trans (two_le_left _ _) (two_le_left _ _)
theorem nx_le (x : Iv) (l : List Sl) : within (nx x l) x = true := by
  cases l with
  | nil => exact within_refl _
  | cons s r => exact two_le_left _ _
theorem ends_fitN (l : List Sl) (n : Option Sl) : ends (fitN l n) = ends l := by
  induction l with
  | nil => rfl
  | cons s r ih => rw [fitN_cons, ends_cons, ends_cons, ih]
theorem ends_void (l : List Sl) : ends (l.map voidS) = ends l := by simp [ends, voidS]
theorem okS_void : ∀ (l : List Sl) (w : Nm), okS w l = true → okS w (l.map voidS) = true
  | [], _, _ => rfl
  | s :: r, w, h => by
    simp only [List.map_cons, okS, Bool.and_eq_true, voidS] at h ⊢
    exact ⟨⟨⟨h.1.1.1, mayI_noneI⟩, mayI_noneI⟩, okS_void r s.1 h.2⟩
theorem mayT_void {t : Tb} (h : mayT t = true) : mayT (t.1, noneI, t.2.2.map voidS) = true := by
  simp only [mayT, Bool.and_eq_true, decide_eq_true_eq] at h ⊢
  exact ⟨⟨⟨h.1.1.1, mayI_noneI⟩, by simpa using h.1.2⟩, okS_void _ _ h.2⟩
theorem mayT_fitT {t : Tb} (h : mayT t = true) : mayT (fitT t) = true := by
  unfold fitT
  rw [if_pos h]
  split
  · exact mayT_void h
  · exact mayT_fitU h
theorem fitT_1 (t : Tb) : (fitT t).1 = t.1 := by
  unfold fitT; repeat' split
  all_goals rfl
theorem ends_fitT (t : Tb) : ends (fitT t).2.2 = ends t.2.2 := by
  unfold fitT; repeat' split
  · exact ends_void _
  · exact ends_fitN _ _
  · rfl
theorem allW_fitN (l : List Sl) (n : Option Sl) : allW (fitN l n) l = true := by
  induction l with
  | nil => rfl
  | cons s r ih => rw [fitN_cons, allW, ih]; simp [wiS, within_refl, g2_le]
theorem sameT_fitT (t : Tb) : sameT (fitT t) t = true := by simp [sameT, fitT_1, ends_fitT]
theorem allW_trans : ∀ (a b c : List Sl), a.length = b.length → b.length = c.length → allW a b = true → allW b c = true → allW a c = true
  | [], _, _, _, _, _, _ => by simp [allW]
  | _ :: _, [], _, h, _, _, _ => by simp at h
  | _ :: _, _ :: _, [], _, h, _, _ => by simp at h
  | x :: a, y :: b, z :: c, h, h', h1, h2 => by
    simp only [allW, wiS, Bool.and_eq_true, List.length_cons] at *
    exact ⟨⟨within_trans h1.1.1 h2.1.1, within_trans h1.1.2 h2.1.2⟩, allW_trans a b c (by omega) (by omega) h1.2 h2.2⟩
/-- Fitted, a tube is within each that it was within, place by place. -/
theorem withinT_fitT {u t : Tb} (hu : mayT u = true) (ht : mayT t = true) (hs : sameT u t = true) (ha : allW u.2.2 t.2.2 = true) (hi : within u.2.1 t.2.1 = true) : withinT (fitT u) t = true := by
  have hl := sameT_len hs
  simp only [sameT, Bool.and_eq_true, decide_eq_true_eq] at hs
  simp only [withinT, timesT, sameT, mayT_fitT hu, ht, fitT_1, ends_fitT, hs.1, hs.2, decide_true, Bool.and_self, Bool.true_and]
  unfold fitT
  rw [if_pos hu]
  split
  · rfl
  · simp only [fitU, Bool.or_eq_true, Bool.and_eq_true]
    exact .inr ⟨allW_trans _ _ _ (fitN_len _ _) hl (allW_fitN _ _) ha, within_trans (nx_le _ _) hi⟩
theorem allW_refl : ∀ l : List Sl, allW l l = true
  | [] => rfl
  | x :: l => by simp [allW, wiS, within_refl, allW_refl l]
theorem setO_spec {l : List Sl} {i : Nat} (h : i < l.length) (x : Iv) : setO l i x = l.set i (l[i].1, l[i].2.1, two l[i].2.2 x) := by
  unfold setO; rw [List.getElem?_eq_getElem h]
theorem allW_set : ∀ (l : List Sl) (i : Nat) (x : Iv), allW (setO l i x) l = true
  | [], i, x => by simp [setO, allW]
  | s :: r, 0, x => by simp [setO, allW, wiS, within_refl, two_le_left, allW_refl]
  | s :: r, i + 1, x => by
    have ih := allW_set r i x
    unfold setO at *
    simp only [List.getElem?_cons_succ]
    cases hr : r[i]? with
    | none => rw [hr] at ih; simp [allW, wiS, within_refl, allW_refl]
    | some q => rw [hr] at ih; simp only at ih ⊢; simp [allW, wiS, within_refl, ih]
theorem ends_set (l : List Sl) (i : Nat) (x : Iv) : ends (setO l i x) = ends l := by
  unfold setO
  cases h : l[i]? with
  | none => rfl
  | some q =>
    simp only [ends, List.map_set]
    obtain ⟨hi, he⟩ := List.getElem?_eq_some_iff.1 h
    apply List.ext_getElem
    · simp
    · intro n h1 h2
      rw [List.getElem_set]
      split
      · rename_i e; subst e; simp [he]
      · rfl
theorem okS_set : ∀ (l : List Sl) (w : Nm) (i : Nat) (x : Iv), okS w l = true → okS w (setO l i x) = true
  | [], w, i, x, _ => by simp [setO, okS]
  | s :: r, w, 0, x, h => by
    simp only [setO, List.getElem?_cons_zero, List.set_cons_zero, okS, Bool.and_eq_true] at h ⊢
    exact ⟨⟨h.1.1, mayI_two _ _⟩, h.2⟩
  | s :: r, w, i + 1, x, h => by
    simp only [okS, Bool.and_eq_true] at h
    have ih := okS_set r s.1 i x h.2
    unfold setO at *
    simp only [List.getElem?_cons_succ]
    cases hr : r[i]? with
    | none => simp only [okS, Bool.and_eq_true]; exact h
    | some q => rw [hr] at ih; simp only [List.set_cons_succ, okS, Bool.and_eq_true] at ih ⊢; exact ⟨h.1, ih⟩
theorem setO_len (l : List Sl) (i : Nat) (x : Iv) : (setO l i x).length = l.length := by
  unfold setO; split <;> simp
theorem fitN_get (l : List Sl) (n : Option Sl) (i : Nat) (h : i < l.length) : ∃ o, (fitN l n)[i]? = some (l[i].1, l[i].2.1, g2 l[i] o) := by
  induction l generalizing i with
  | nil => simp at h
  | cons s r ih =>
    rw [fitN_cons]
    cases i with
    | zero => exact ⟨_, rfl⟩
    | succ i => simpa using ih i (by simpa using h)
/-- What a gate that was set has. -/
theorem gate_fitT {u : Tb} (hu : mayT u = true) {i : Int} (h0 : 0 ≤ i) (h1 : i ≤ u.2.2.length) : within (gateT (fitT u) i) (gateT u i) = true ∧ (emptyT (fitT u) = true → (gateT (fitT u) i).1 = true) := by
  have hl := fitT_len u
  have e1 : gateT u i = if i = 0 then u.2.1 else ((u.2.2[(i - 1).toNat]?).map (·.2.2)).getD noneI := by unfold gateT; rw [if_pos ⟨hu, h0, h1⟩]
  have e2 : gateT (fitT u) i = if i = 0 then (fitT u).2.1 else (((fitT u).2.2[(i - 1).toNat]?).map (·.2.2)).getD noneI := by unfold gateT; rw [if_pos ⟨mayT_fitT hu, h0, by rw [hl]; exact h1⟩]
  by_cases he : emptyT (fitU u) = true
  · have ef : fitT u = (u.1, noneI, u.2.2.map voidS) := by unfold fitT; rw [if_pos hu, if_pos he]
    have e3 : gateT (fitT u) i = noneI := by
      rw [e2, ef]
      split
      · rfl
      · cases hq : u.2.2[(i - 1).toNat]? with
        | none => rw [List.getElem?_map, hq]; rfl
        | some q => rw [List.getElem?_map, hq]; rfl
    rw [e3]
    exact ⟨within_none _, fun _ => rfl⟩
  · have ef : fitT u = fitU u := by unfold fitT; rw [if_pos hu, if_neg he]
    rw [e1, e2, ef]
    refine ⟨?_, fun h => absurd h he⟩
    split
    · exact nx_le _ _
    · have hi : (i - 1).toNat < u.2.2.length := by omega
      obtain ⟨o, ho⟩ := fitN_get u.2.2 none _ hi
      simp only [fitU, ho, List.getElem?_eq_getElem hi, Option.map_some, Option.getD_some]
      exact g2_le _ _
theorem setT_laws {t : Tb} {i : Int} {x : Iv} (h : (setT t i x).2 = 0) : withinT (setT t i x).1 t = true ∧ within (gateT (setT t i x).1 i) (two (gateT t i) x) = true ∧ mayT (setT t i x).1 = true ∧ (emptyT (setT t i x).1 = true → (gateT (setT t i x).1 i).1 = true) := by
  unfold setT at h ⊢
  split at h
  case isFalse => cases h
  rename_i hm
  rw [if_pos hm]
  simp only [Bool.and_eq_true] at hm
  obtain ⟨hm, hx⟩ := hm
  split at h
  case isTrue => cases h
  rename_i hb
  rw [if_neg hb]
  have hmm := hm
  simp only [mayT, Bool.and_eq_true, decide_eq_true_eq] at hmm
  obtain ⟨⟨⟨a1, a2⟩, a3⟩, a4⟩ := hmm
  have gt : gateT t i = if i = 0 then t.2.1 else ((t.2.2[(i - 1).toNat]?).map (·.2.2)).getD noneI := by unfold gateT; rw [if_pos ⟨hm, by omega, by omega⟩]
  split
  · rename_i h0
    have hu : mayT (t.1, two t.2.1 x, t.2.2) = true := by
      simp only [mayT, Bool.and_eq_true, decide_eq_true_eq]
      exact ⟨⟨⟨a1, mayI_two _ _⟩, a3⟩, a4⟩
    obtain ⟨g1, g3⟩ := gate_fitT hu (i := i) (by omega) (by simp only; omega)
    refine ⟨withinT_fitT hu hm (by simp [sameT]) (allW_refl _) (two_le_left _ _), ?_, mayT_fitT hu, g3⟩
    refine within_trans g1 ?_
    have : gateT (t.1, two t.2.1 x, t.2.2) i = two t.2.1 x := by unfold gateT; rw [if_pos ⟨hu, by omega, by simp only; omega⟩, if_pos h0]
    rw [this, gt, if_pos h0]
    exact within_refl _
  · rename_i h0
    have hu : mayT (t.1, t.2.1, setO t.2.2 (i - 1).toNat x) = true := by
      simp only [mayT, Bool.and_eq_true, decide_eq_true_eq]
      exact ⟨⟨⟨a1, a2⟩, by rw [setO_len]; exact a3⟩, okS_set _ _ _ _ a4⟩
    obtain ⟨g1, g3⟩ := gate_fitT hu (i := i) (by omega) (by simp only [setO_len]; omega)
    refine ⟨withinT_fitT hu hm (by simp [sameT, ends_set]) (allW_set _ _ _) (within_refl _), ?_, mayT_fitT hu, g3⟩
    refine within_trans g1 ?_
    have hi : (i - 1).toNat < t.2.2.length := by omega
    have : gateT (t.1, t.2.1, setO t.2.2 (i - 1).toNat x) i = two t.2.2[(i - 1).toNat].2.2 x := by
      unfold gateT
      rw [if_pos ⟨hu, by omega, by simp only [setO_len]; omega⟩, if_neg h0, setO_spec hi]
      simp only [List.getElem?_set_self hi, Option.map_some, Option.getD_some]
    rw [this, gt, if_neg h0, List.getElem?_eq_getElem hi]
    exact within_refl _
theorem setT_err {t : Tb} {i : Int} {x : Iv} (h : (setT t i x).2 ≠ 0) : (setT t i x).1 = zT := by
  unfold setT at *
  split
  · rename_i hm
    rw [if_pos hm] at h
    split
    · rfl
    · rename_i hb
      rw [if_neg hb] at h
      split at h <;> exact absurd rfl h
  · rfl
/-! ### bits, rounding, sums and products of numbers -/
/-- How many bits a number has. -/
def bl (n : Int) : Int := if n ≤ 0 then 0 else (Nat.log2 n.toNat : Int) + 1
theorem bl_zero : bl 0 = 0 := rfl
theorem p2_pos (i : Nat) : (0 : Int) < 2 ^ i := Int.pow_pos (by decide)
theorem p2_succ (i : Nat) : (2 : Int) ^ (i + 1) = 2 * 2 ^ i := by rw [Int.pow_succ, Int.mul_comm]
theorem p2_add (i j : Nat) : (2 : Int) ^ (i + j) = 2 ^ i * 2 ^ j := Int.pow_add _ _ _
theorem p2_mono {i j : Nat} (h : i ≤ j) : (2 : Int) ^ i ≤ 2 ^ j := by
  obtain ⟨d, rfl⟩ := Nat.le.dest h
  rw [p2_add]
  have h1 := p2_pos i
  have h2 : (1 : Int) ≤ 2 ^ d := by have := p2_pos d; omega
  have := Int.mul_le_mul_of_nonneg_left h2 (c := 2 ^ i) (by omega)
  omega
theorem p2_lt {i j : Nat} (h : (2 : Int) ^ i < 2 ^ j) : i < j := by
  by_cases hq : i < j
  · exact hq
  · have := p2_mono (i := j) (j := i) (by omega)
    omega
theorem bl_pos {n : Int} (h : 0 < n) : 0 < bl n := by unfold bl; rw [if_neg (by omega)]; omega
theorem bl_nonneg (n : Int) : 0 ≤ bl n := by unfold bl; split <;> omega
theorem bl_ge {n : Int} (h : 0 < n) : (2 : Int) ^ (bl n - 1).toNat ≤ n := by
  obtain ⟨m, rfl⟩ : ∃ m : Nat, n = m := ⟨n.toNat, by omega⟩
  unfold bl
  rw [if_neg (by omega)]
  have := Nat.log2_self_le (n := m) (by omega)
  rw [Int.add_sub_cancel, Int.toNat_natCast, Int.toNat_natCast]
  exact_mod_cast this
theorem bl_lt {n : Int} (h : 0 ≤ n) : n < (2 : Int) ^ (bl n).toNat := by
  obtain ⟨m, rfl⟩ : ∃ m : Nat, n = m := ⟨n.toNat, by omega⟩
  unfold bl
  by_cases hm : m = 0
  · subst hm; decide
  · rw [if_neg (by omega)]
    have := Nat.lt_log2_self (n := m)
    have e : ((Nat.log2 (m : Int).toNat : Int) + 1).toNat = m.log2 + 1 := by rw [Int.toNat_natCast]; omega
    rw [e]
    exact_mod_cast this
theorem bl_eq {n : Int} {m : Nat} (h0 : (2 : Int) ^ m ≤ n) (h1 : n < 2 ^ (m + 1)) : bl n = (m : Int) + 1 := by
  have hp := p2_pos m
  have a := bl_ge (n := n) (by omega)
  have b := bl_lt (n := n) (by omega)
  have c := bl_pos (n := n) (by omega)
  have d := p2_lt (Int.lt_of_le_of_lt a h1)
  have e := p2_lt (Int.lt_of_le_of_lt h0 b)
  omega
theorem bl_le {n : Int} {m : Nat} (h1 : n < 2 ^ m) : bl n ≤ m := by
  by_cases h : 0 < n
  · have a := bl_ge h
    have d := p2_lt (Int.lt_of_le_of_lt a h1)
    omega
  · unfold bl; rw [if_pos (by omega)]; omega
theorem bl_shift {x : Int} (j : Nat) (h : 0 < x / 2 ^ j) : bl x = j + bl (x / 2 ^ j) := by
  have a := bl_ge h
  have b := bl_lt (n := x / 2 ^ j) (by omega)
  have c := bl_pos h
  have p := p2_pos j
  have h1 : (2 : Int) ^ (j + (bl (x / 2 ^ j) - 1).toNat) ≤ x := by
    rw [p2_add]
    have := Int.mul_le_mul_of_nonneg_left a (c := 2 ^ j) (by omega)
    have e := Int.mul_ediv_add_emod x (2 ^ j)
    have f := Int.emod_nonneg x (b := 2 ^ j) (by omega)
    omega
  have h2 : x < (2 : Int) ^ (j + (bl (x / 2 ^ j) - 1).toNat + 1) := by
    rw [show j + (bl (x / 2 ^ j) - 1).toNat + 1 = j + (bl (x / 2 ^ j)).toNat by omega, p2_add]
    have h3 : x / 2 ^ j + 1 ≤ 2 ^ (bl (x / 2 ^ j)).toNat := b
    have := Int.mul_le_mul_of_nonneg_left h3 (c := 2 ^ j) (by omega)
    have e := Int.mul_ediv_add_emod x (2 ^ j)
    have f := Int.emod_lt_of_pos x p
    rw [Int.mul_add] at this
    omega
  have := bl_eq h1 h2
  omega
theorem mul_bound {x y : Int} (hx : 0 ≤ x ∧ x < 4294967296) (hy : 0 ≤ y ∧ y < 4294967296) : 0 ≤ x * y ∧ x * y ≤ 18446744065119617025 := by
  refine ⟨Int.mul_nonneg hx.1 hy.1, ?_⟩
  have h1 := Int.mul_le_mul (a := x) (b := y) (c := 4294967295) (d := 4294967295) (by omega) (by omega) hy.1 (by omega)
  omega
theorem bl_mul {v : Int} (h : 0 < v) (n : Nat) : bl (v * 2 ^ n) = bl v + n := by
  have hp := p2_pos n
  have e : v * 2 ^ n / 2 ^ n = v := Int.mul_ediv_cancel _ (by omega)
  have := bl_shift (x := v * 2 ^ n) n (by rw [e]; exact h)
  rw [this, e, Int.add_comm]
theorem bits_or_comm (k : IntKind) (x y : Int) : Go.bits .or k x y = Go.bits .or k y x := by simp only [Go.bits, BitVec.or_comm]
theorem u64w {x : Int} (h0 : 0 ≤ x) (h1 : x < 18446744073709551616) : IntKind.u64.wrap x = x := wraps_u64 x h0 h1
theorem wrap_u64 (x : Int) : IntKind.u64.wrap x = x % 18446744073709551616 := by rw [IntKind.wrap_u64]
/-- A number of a sign, 64 bits of which the highest is 1, and an exponent, kept within the bounds. -/
def bnd (neg : Bool) (m e : Int) (away : Bool) : Nm :=
  if e > 1048576 then (if away = true then (2, neg, 0, 0) else (1, neg, 18446744073709551615, 1048576))
  else if e < -1048576 then (if away = true then (1, neg, 9223372036854775808, -1048576) else (0, false, 0, 0))
  else (1, neg, m, e)
/-- Such a number, one farther if something was cut off, and away. -/
def grw (neg : Bool) (m e : Int) (cut away : Bool) : Nm :=
  if cut = true ∧ away = true then (if m + 1 = 18446744073709551616 then bnd neg 9223372036854775808 (e + 1) away else bnd neg (m + 1) e away) else bnd neg m e away
/-- v * 2^e, above nought, rounded away from nought or not. -/
def rnd (neg : Bool) (v e : Int) (away : Bool) : Nm :=
  if bl v ≤ 64 then bnd neg (v * 2 ^ (64 - bl v).toNat) (e + bl v - 64) away
  else grw neg (v / 2 ^ (bl v - 64).toNat) (e + bl v - 64) (decide (v % 2 ^ (bl v - 64).toNat ≠ 0)) away

theorem p63 : (2 : Int) ^ 63 = 9223372036854775808 := by decide
theorem p64 : (2 : Int) ^ 64 = 18446744073709551616 := by decide
theorem mul_le_p {a b : Int} (t : Nat) (h : a ≤ b) : a * 2 ^ t ≤ b * 2 ^ t := Int.mul_le_mul_of_nonneg_right h (by have := p2_pos t; omega)
theorem mul_lt_p {a b : Int} (t : Nat) (h : a < b) : a * 2 ^ t < b * 2 ^ t := Int.mul_lt_mul_of_pos_right h (p2_pos t)
theorem le_of_p {a b : Int} (t : Nat) (h : a * 2 ^ t ≤ b * 2 ^ t) : a ≤ b := Int.le_of_mul_le_mul_right h (p2_pos t)
theorem lt_of_p {a b : Int} (t : Nat) (h : a * 2 ^ t < b * 2 ^ t) : a < b := Int.lt_of_mul_lt_mul_right h (by have := p2_pos t; omega)
theorem eq_of_p {a b : Int} (t : Nat) (h : a * 2 ^ t = b * 2 ^ t) : a = b := by
  have h1 := le_of_p t (Int.le_of_eq h)
  have h2 := le_of_p t (Int.le_of_eq h.symm)
  omega
theorem pos_of_p {a : Int} (t : Nat) (h : 0 < a * 2 ^ t) : 0 < a := by
  refine lt_of_p (a := 0) t ?_
  omega
/-- How many bits a number has that lies so. -/
theorem bl_in {x q : Int} {t : Nat} (q0 : 9223372036854775808 ≤ q) (q1 : q < 18446744073709551616) (h1 : q * 2 ^ t ≤ x) (h2 : x < (q + 1) * 2 ^ t) : bl x = 64 + t := by
  have a := mul_le_p t q0
  have b := mul_le_p (a := q + 1) (b := 18446744073709551616) t (by omega)
  rw [← p63, ← p2_add] at a
  rw [← p64, ← p2_add] at b
  have := bl_eq (n := x) (m := 63 + t) (by omega) (by rw [show 63 + t + 1 = 64 + t by omega]; omega)
  omega
theorem blp {v : Int} (h : 0 < v) (n : Nat) : bl (v * 2 ^ n) = bl v + n := bl_mul h n
/-- q * 2^E is what is left of v * 2^e, if what is behind the 64 bits is cut off; c: was there something? -/
def Fit (v e q E : Int) (c : Bool) : Prop :=
  9223372036854775808 ≤ q ∧ q < 18446744073709551616 ∧ ∃ s t : Nat, e - s = E - t ∧ q * 2 ^ t ≤ v * 2 ^ s ∧ v * 2 ^ s < (q + 1) * 2 ^ t ∧ (c = true ↔ q * 2 ^ t ≠ v * 2 ^ s)
theorem rnd_fit {v e q E : Int} {c : Bool} (h : Fit v e q E c) (neg away : Bool) : rnd neg v e away = grw neg q E c away := by
  obtain ⟨q0, q1, s, t, he, h1, h2, hc⟩ := h
  have hv : 0 < v := by
    have := Int.mul_pos (show 0 < q by omega) (p2_pos t)
    exact pos_of_p s (by omega)
  have hb := bl_in q0 q1 h1 h2
  rw [blp hv] at hb
  unfold rnd
  by_cases hts : t ≤ s
  · obtain ⟨d, rfl⟩ := Nat.le.dest hts
    rw [if_pos (by omega)]
    rw [show (64 - bl v).toNat = d by omega, show e + bl v - 64 = E by omega]
    rw [Nat.add_comm t d, p2_add, ← Int.mul_assoc] at h1 h2 hc
    have e1 := le_of_p t h1
    have e2 := lt_of_p t h2
    have e3 : v * 2 ^ d = q := by omega
    rw [e3] at hc ⊢
    unfold grw
    rw [if_neg (fun hh => hc.1 hh.1 rfl)]
  · obtain ⟨d, rfl⟩ := Nat.le.dest (show s ≤ t by omega)
    rw [if_neg (by omega)]
    rw [show (bl v - 64).toNat = d by omega, show e + bl v - 64 = E by omega]
    rw [Nat.add_comm s d, p2_add, ← Int.mul_assoc] at h1 hc
    rw [Nat.add_comm s d, p2_add, ← Int.mul_assoc] at h2
    have e1 := le_of_p s h1
    have e2 := lt_of_p s h2
    have e4 : (v - q * 2 ^ d) = v - 2 ^ d * q := by rw [Int.mul_comm q]
    have hp := p2_pos d
    rw [Int.add_mul, Int.one_mul] at e2
    have e5 : v = (v - q * 2 ^ d) + 2 ^ d * q := by omega
    have e6 : v / 2 ^ d = q := by
      rw [e5, Int.add_mul_ediv_left _ _ (by omega), Int.ediv_eq_zero_of_lt (by omega) (by omega)]
      omega
    have e7 : v % 2 ^ d = v - q * 2 ^ d := by
      conv => lhs; rw [e5]
      rw [Int.add_mul_emod_self_left, Int.emod_eq_of_lt (by omega) (by omega)]
    rw [e6, e7]
    congr 1
    rw [Bool.eq_iff_iff, decide_eq_true_iff, hc]
    constructor
    · intro h3 h4; exact h3 (by have := eq_of_p s h4; omega)
    · intro h3 h4; exact h3 (by rw [show v = q * 2 ^ d by omega])
theorem fit_ex {v : Int} (e : Int) (hv : 0 < v) : ∃ q E c, Fit v e q E c := by
  have hb := bl_pos hv
  have hg := bl_ge hv
  have hl := bl_lt (n := v) (by omega)
  by_cases h : bl v ≤ 64
  · obtain ⟨d, hd⟩ : ∃ d : Nat, bl v = 64 - d := ⟨(64 - bl v).toNat, by omega⟩
    refine ⟨v * 2 ^ d, e - d, false, ?_, ?_, d, 0, by omega, by simp, ?_, by simp⟩
    · have := mul_le_p d hg
      rw [← p2_add, show (bl v - 1).toNat + d = 63 by omega, p63] at this
      exact this
    · have := mul_lt_p d hl
      rw [← p2_add, show (bl v).toNat + d = 64 by omega, p64] at this
      exact this
    · rw [Int.pow_zero, Int.mul_one]; omega
  · obtain ⟨d, hd⟩ : ∃ d : Nat, bl v = 64 + d := ⟨(bl v - 64).toNat, by omega⟩
    have hp := p2_pos d
    have e1 := Int.mul_ediv_add_emod v (2 ^ d)
    have e2 := Int.emod_nonneg v (b := 2 ^ d) (by omega)
    have e3 := Int.emod_lt_of_pos v hp
    rw [Int.mul_comm] at e1
    rw [show (bl v - 1).toNat = 63 + d by omega, p2_add, p63] at hg
    rw [show (bl v).toNat = 64 + d by omega, p2_add, p64] at hl
    refine ⟨v / 2 ^ d, e + d, decide (v % 2 ^ d ≠ 0), ?_, ?_, 0, d, by omega, by rw [Int.pow_zero, Int.mul_one]; omega, ?_, ?_⟩
    · exact Int.le_ediv_of_mul_le hp hg
    · exact Int.ediv_lt_of_lt_mul hp hl
    · rw [Int.pow_zero, Int.mul_one, Int.add_mul, Int.one_mul]; omega
    · rw [Int.pow_zero, Int.mul_one, decide_eq_true_iff]
      constructor
      · intro h3 h4; omega
      · intro h3 h4; exact h3 (by omega)
theorem Fit.pos {v e q E : Int} {c : Bool} (h : Fit v e q E c) : 0 < v := by
  obtain ⟨q0, q1, s, t, he, h1, h2, hc⟩ := h
  have := Int.mul_pos (show 0 < q by omega) (p2_pos t)
  exact pos_of_p s (by omega)
/-- A common factor plays no part. -/
theorem Fit.scale {v e q E : Int} {c : Bool} (j : Nat) (h : Fit v (e + j) q E c) : Fit (v * 2 ^ j) e q E c := by
  obtain ⟨q0, q1, s, t, he, h1, h2, hc⟩ := h
  have r : ∀ x : Int, x * 2 ^ (t + j) = x * 2 ^ t * 2 ^ j := fun x => by rw [p2_add, Int.mul_assoc]
  have r2 : v * 2 ^ j * 2 ^ s = v * 2 ^ s * 2 ^ j := by rw [Int.mul_right_comm]
  refine ⟨q0, q1, s, t + j, by omega, ?_, ?_, ?_⟩
  · rw [r, r2]; exact mul_le_p j h1
  · rw [r, r2]; exact mul_lt_p j h2
  · rw [r, r2, hc]
    constructor
    · intro h3 h4; exact h3 (eq_of_p j h4)
    · intro h3 h4; exact h3 (by rw [h4])
theorem rnd_scale {v : Int} (hv : 0 < v) (e : Int) (j : Nat) (neg away : Bool) : rnd neg (v * 2 ^ j) e away = rnd neg v (e + j) away := by
  obtain ⟨q, E, c, h⟩ := fit_ex (e + j) hv
  rw [rnd_fit h, rnd_fit h.scale]
theorem div_fit {v e S : Int} {d : Nat} {c : Bool} (s0 : 9223372036854775808 ≤ S) (s1 : S < 18446744073709551616) (hs : v / 2 ^ d = S) (hc : c = true ↔ v % 2 ^ d ≠ 0) : Fit v e S (e + d) c := by
  have hp := p2_pos d
  have e1 := Int.mul_ediv_add_emod v (2 ^ d)
  have e2 := Int.emod_nonneg v (b := 2 ^ d) (by omega)
  have e3 := Int.emod_lt_of_pos v hp
  rw [hs, Int.mul_comm] at e1
  refine ⟨s0, s1, 0, d, by omega, by rw [Int.pow_zero, Int.mul_one]; omega, by rw [Int.pow_zero, Int.mul_one, Int.add_mul, Int.one_mul]; omega, ?_⟩
  rw [Int.pow_zero, Int.mul_one, hc]
  constructor
  · intro h3 h4; omega
  · intro h3 h4; exact h3 (by omega)
theorem rnd_self {m : Int} (m0 : 9223372036854775808 ≤ m) (m1 : m < 18446744073709551616) (neg : Bool) (e : Int) (away : Bool) : rnd neg m e away = bnd neg m e away := by
  rw [rnd_fit (q := m) (E := e) (c := false) ⟨m0, m1, 0, 0, by omega, Int.le_refl _, by rw [Int.pow_zero]; omega, by simp⟩]
  unfold grw
  rw [if_neg (by simp)]
theorem bnd_in {e : Int} (e0 : -1048576 ≤ e) (e1 : e ≤ 1048576) (neg : Bool) (m : Int) (away : Bool) : bnd neg m e away = (1, neg, m, e) := by
  unfold bnd
  rw [if_neg (by omega), if_neg (by omega)]
def mayP (n : Nm) : Prop := (n.1 = 0 ∧ n.2.1 = false ∧ n.2.2.1 = 0 ∧ n.2.2.2 = 0) ∨ (n.1 = 1 ∧ 9223372036854775808 ≤ n.2.2.1 ∧ n.2.2.1 < 18446744073709551616 ∧ -1048576 ≤ n.2.2.2 ∧ n.2.2.2 ≤ 1048576) ∨ (n.1 = 2 ∧ n.2.2.1 = 0 ∧ n.2.2.2 = 0)
theorem may_fin {n : Nm} (h : mayP n) (h1 : n.1 = 1) : 9223372036854775808 ≤ n.2.2.1 ∧ n.2.2.1 < 18446744073709551616 ∧ -1048576 ≤ n.2.2.2 ∧ n.2.2.2 ≤ 1048576 := by
  rcases h with ⟨h2, _⟩ | ⟨_, h2⟩ | ⟨h2, _⟩
  · omega
  · exact h2
  · omega
theorem bnd_may {neg : Bool} {m e : Int} {away : Bool} (h0 : 9223372036854775808 ≤ m) (h1 : m < 18446744073709551616) : mayP (bnd neg m e away) := by
  unfold bnd
  split
  · split
    · exact .inr (.inr ⟨rfl, rfl, rfl⟩)
    · exact .inr (.inl ⟨rfl, by simp, by simp, by simp, by simp⟩)
  · split
    · split
      · exact .inr (.inl ⟨rfl, by simp, by simp, by simp, by simp⟩)
      · exact .inl ⟨rfl, rfl, rfl, rfl⟩
    · exact .inr (.inl ⟨rfl, h0, h1, by simp only; omega, by simp only; omega⟩)
theorem grw_may {neg : Bool} {m e : Int} {cut away : Bool} (h0 : 9223372036854775808 ≤ m) (h1 : m < 18446744073709551616) : mayP (grw neg m e cut away) := by
  unfold grw
  split
  · split
    · exact bnd_may (by omega) (by omega)
    · exact bnd_may (by omega) (by omega)
  · exact bnd_may h0 h1
theorem rnd_may {neg : Bool} {v e : Int} {away : Bool} (hv : 0 < v) : mayP (rnd neg v e away) := by
  obtain ⟨q, E, c, h⟩ := fit_ex e hv
  rw [rnd_fit h]
  exact grw_may h.1 h.2.1
def ngv (n : Nm) : Nm := if n.1 = 0 then (0, false, 0, 0) else (n.1, !n.2.1, n.2.2.1, n.2.2.2)
theorem bnd_neg (neg : Bool) (m e : Int) (away : Bool) : ngv (bnd neg m e away) = bnd (!neg) m e away := by
  unfold bnd
  split
  · split <;> rfl
  · split
    · split <;> rfl
    · rfl
theorem grw_neg (neg : Bool) (m e : Int) (cut away : Bool) : ngv (grw neg m e cut away) = grw (!neg) m e cut away := by
  unfold grw
  split
  · split <;> exact bnd_neg _ _ _ _
  · exact bnd_neg _ _ _ _
theorem rnd_neg (neg : Bool) (v e : Int) (away : Bool) : ngv (rnd neg v e away) = rnd (!neg) v e away := by
  unfold rnd
  split
  · exact bnd_neg _ _ _ _
  · exact grw_neg _ _ _ _ _
theorem ngv_ngv {n : Nm} (h : mayP n) : ngv (ngv n) = n := by
  obtain ⟨a, b, c, d⟩ := n
  rcases h with ⟨h1, h2, h3, h4⟩ | ⟨h1, _⟩ | ⟨h1, _⟩ <;> simp only at h1
  · simp only at h2 h3 h4; subst h1 h2 h3 h4; rfl
  · subst h1; simp [ngv]
  · subst h1; simp [ngv]
theorem ngv_may {n : Nm} (h : mayP n) : mayP (ngv n) := by
  obtain ⟨a, b, c, d⟩ := n
  rcases h with ⟨h1, h2, h3, h4⟩ | ⟨h1, h2⟩ | ⟨h1, h2⟩ <;> simp only at h1
  · subst h1; exact .inl ⟨rfl, rfl, rfl, rfl⟩
  · subst h1; exact .inr (.inl ⟨rfl, h2⟩)
  · subst h1; exact .inr (.inr ⟨rfl, h2⟩)
/-- With the sign. -/
def sg (neg : Bool) (m : Int) : Int := if neg = true then -m else m
/-- An exact number, a whole one times a power of two, rounded. -/
def rnz (s e : Int) (up : Bool) : Nm := if s = 0 then (0, false, 0, 0) else rnd (decide (s < 0)) s.natAbs e (up != decide (s < 0))
/-- The exact sum of two finite ones, of which f is not above the exponents. -/
def exs (a b : Nm) (f : Int) : Int := sg a.2.1 a.2.2.1 * 2 ^ (a.2.2.2 - f).toNat + sg b.2.1 b.2.2.1 * 2 ^ (b.2.2.2 - f).toNat
/-- The sum of two that may be. -/
def addv (a b : Nm) (up : Bool) : Nm :=
  if a.1 = 2 ∧ b.1 = 2 ∧ a.2.1 ≠ b.2.1 then (2, !up, 0, 0)
  else if a.1 = 2 ∨ b.1 = 0 then a
  else if b.1 = 2 ∨ a.1 = 0 then b
  else rnz (exs a b (min a.2.2.2 b.2.2.2)) (min a.2.2.2 b.2.2.2) up
/-- The product of two that may be. -/
def mulv (a b : Nm) (up : Bool) : Nm :=
  if a.1 = 0 ∨ b.1 = 0 then (0, false, 0, 0)
  else if a.1 = 2 ∨ b.1 = 2 then (2, a.2.1 != b.2.1, 0, 0)
  else rnd (a.2.1 != b.2.1) (a.2.2.1 * b.2.2.1) (a.2.2.2 + b.2.2.2) (up != (a.2.1 != b.2.1))
theorem rnz_may (s e : Int) (up : Bool) : mayP (rnz s e up) := by
  unfold rnz
  split
  · exact .inl ⟨rfl, rfl, rfl, rfl⟩
  · exact rnd_may (by omega)
theorem rnz_neg (s e : Int) (up : Bool) : ngv (rnz s e up) = rnz (-s) e (!up) := by
  unfold rnz
  by_cases h : s = 0
  · rw [if_pos h, if_pos (by omega)]; rfl
  · rw [if_neg h, if_neg (by omega), rnd_neg, Int.natAbs_neg]
    have : decide (-s < 0) = !decide (s < 0) := by
      by_cases h2 : s < 0
      · rw [decide_eq_true h2, decide_eq_false (by omega)]; rfl
      · rw [decide_eq_false h2, decide_eq_true (by omega)]; rfl
    rw [this]
    cases up <;> cases decide (s < 0) <;> rfl
theorem rnz_scale (s e : Int) (j : Nat) (up : Bool) : rnz (s * 2 ^ j) e up = rnz s (e + j) up := by
  have hp := p2_pos j
  unfold rnz
  by_cases h : s = 0
  · rw [if_pos h, if_pos (by rw [h]; omega)]
  · have h1 : s * 2 ^ j ≠ 0 := Int.mul_ne_zero h (by omega)
    have h2 : decide (s * 2 ^ j < 0) = decide (s < 0) := by
      by_cases h2 : s < 0
      · rw [decide_eq_true h2, decide_eq_true (Int.mul_neg_of_neg_of_pos h2 hp)]
      · rw [decide_eq_false h2, decide_eq_false]
        have := Int.mul_pos (show 0 < s by omega) hp
        omega
    have h3 : ((s * 2 ^ j).natAbs : Int) = (s.natAbs : Int) * 2 ^ j := by
      rw [Int.natAbs_mul, Int.natCast_mul]
      rw [show ((((2 : Int) ^ j).natAbs : Nat) : Int) = 2 ^ j from Int.natAbs_of_nonneg (by omega)]
    rw [if_neg h1, if_neg h, h2, h3, rnd_scale (by omega)]
theorem exs_scale (a b : Nm) (f : Int) (j : Nat) (ha : f ≤ a.2.2.2) (hb : f ≤ b.2.2.2) : exs a b (f - j) = exs a b f * 2 ^ j := by
  unfold exs
  rw [show (a.2.2.2 - (f - j)).toNat = (a.2.2.2 - f).toNat + j by omega, show (b.2.2.2 - (f - j)).toNat = (b.2.2.2 - f).toNat + j by omega, p2_add, p2_add, Int.add_mul, Int.mul_assoc, Int.mul_assoc]
theorem exs_comm (a b : Nm) (f : Int) : exs a b f = exs b a f := by unfold exs; rw [Int.add_comm]
theorem addv_comm (a b : Nm) (up : Bool) (ha : mayP a) (hb : mayP b) : addv a b up = addv b a up := by
  obtain ⟨a1, a2, a3, a4⟩ := a
  obtain ⟨b1, b2, b3, b4⟩ := b
  unfold addv
  rw [exs_comm, Int.min_comm]
  rcases ha with ⟨h1, h2, h3, h4⟩ | ⟨h1, h2⟩ | ⟨h1, h2, h3⟩ <;> rcases hb with ⟨g1, g2, g3, g4⟩ | ⟨g1, g2⟩ | ⟨g1, g2, g3⟩ <;> simp only at h1 g1 <;> subst h1 g1 <;> simp_all
  all_goals (cases a2 <;> cases b2 <;> simp)
theorem sg_neg (n : Bool) (m : Int) : sg (!n) m = -sg n m := by cases n <;> simp [sg]
theorem addv_may {a b : Nm} (up : Bool) (ha : mayP a) (hb : mayP b) : mayP (addv a b up) := by
  unfold addv
  split
  · exact .inr (.inr ⟨rfl, rfl, rfl⟩)
  split
  · exact ha
  split
  · exact hb
  exact rnz_may _ _ _
theorem addv_neg (a b : Nm) (up : Bool) (ha : mayP a) (hb : mayP b) : ngv (addv a b up) = addv (ngv a) (ngv b) (!up) := by
  have e : ∀ f, a.1 = 1 → b.1 = 1 → exs (ngv a) (ngv b) f = -exs a b f := fun f h1 h2 => by
    unfold exs ngv
    rw [if_neg (by omega), if_neg (by omega), sg_neg, sg_neg]
    simp only [Int.neg_mul]
    omega
  obtain ⟨a1, a2, a3, a4⟩ := a
  obtain ⟨b1, b2, b3, b4⟩ := b
  unfold addv
  rcases ha with ⟨h1, h2, h3, h4⟩ | ⟨h1, h2⟩ | ⟨h1, h2, h3⟩ <;> rcases hb with ⟨g1, g2, g3, g4⟩ | ⟨g1, g2⟩ | ⟨g1, g2, g3⟩ <;> simp only at h1 g1 <;> subst h1 g1 <;> simp_all [ngv]
  · exact rnz_neg _ _ _
  · cases a2 <;> cases b2 <;> simp
theorem mulv_comm (a b : Nm) (up : Bool) : mulv a b up = mulv b a up := by
  unfold mulv
  rw [Int.mul_comm, Int.add_comm a.2.2.2]
  have e : (a.2.1 != b.2.1) = (b.2.1 != a.2.1) := by cases a.2.1 <;> cases b.2.1 <;> rfl
  rw [e]
  simp only [or_comm]
theorem mulv_may {a b : Nm} (up : Bool) (ha : mayP a) (hb : mayP b) : mayP (mulv a b up) := by
  unfold mulv
  split
  · exact .inl ⟨rfl, rfl, rfl, rfl⟩
  split
  · exact .inr (.inr ⟨rfl, rfl, rfl⟩)
  rcases ha with ⟨h1, h2, h3, h4⟩ | ⟨h1, h2, h3⟩ | ⟨h1, h2, h3⟩ <;> rcases hb with ⟨g1, g2, g3, g4⟩ | ⟨g1, g2, g3⟩ | ⟨g1, g2, g3⟩ <;> try omega
  exact rnd_may (Int.mul_pos (by omega) (by omega))
theorem mulv_neg (a b : Nm) (up : Bool) (ha : mayP a) (hb : mayP b) : ngv (mulv a b up) = mulv (ngv a) b (!up) := by
  obtain ⟨a1, a2, a3, a4⟩ := a
  obtain ⟨b1, b2, b3, b4⟩ := b
  unfold mulv
  rcases ha with ⟨h1, h2, h3, h4⟩ | ⟨h1, h2⟩ | ⟨h1, h2, h3⟩ <;> rcases hb with ⟨g1, g2, g3, g4⟩ | ⟨g1, g2⟩ | ⟨g1, g2, g3⟩ <;> simp only at h1 g1 <;> subst h1 g1 <;> simp [ngv]
  · cases a2 <;> cases b2 <;> cases up <;> exact rnd_neg _ _ _ _
  all_goals cases a2 <;> cases b2 <;> rfl
theorem low_a {m : Int} {n j : Nat} (h : n + j = 64) : m * 18446744073709551616 / 2 ^ n = m * 2 ^ j ∧ m * 18446744073709551616 % 2 ^ n = 0 ∧ m / 2 ^ n = m * 2 ^ j / 18446744073709551616 := by
  have hW : (18446744073709551616 : Int) = 2 ^ j * 2 ^ n := by rw [← p2_add, Nat.add_comm, h, p64]
  have hn := p2_pos n
  have hj := p2_pos j
  rw [hW, ← Int.mul_assoc, Int.mul_ediv_cancel _ (by omega), Int.mul_emod_left]
  refine ⟨rfl, rfl, ?_⟩
  rw [Int.mul_comm (2 ^ j) (2 ^ n), Int.mul_ediv_mul_of_pos_left _ _ hj]
theorem em_mul (m a : Int) {b : Int} (hb : 0 < b) : (m * b) % (a * b) = (m % a) * b := by rw [Int.mul_comm m, Int.mul_comm a, Int.mul_emod_mul_of_pos _ _ hb, Int.mul_comm]
theorem low_b {m : Int} {n i : Nat} (h : n = i + 64) : m * 18446744073709551616 / 2 ^ n = m / 2 ^ i ∧ m * 18446744073709551616 % 2 ^ n = (m % 2 ^ i) * 18446744073709551616 := by
  subst h
  rw [p2_add, p64, Int.mul_ediv_mul_of_pos_left _ _ (by decide), em_mul _ _ (by decide)]
  exact ⟨rfl, rfl⟩
theorem low_c {m : Int} {i j : Nat} (h : i + j = 64) : (m * 2 ^ j) % 18446744073709551616 = (m % 2 ^ i) * 2 ^ j := by
  have hW : (18446744073709551616 : Int) = 2 ^ i * 2 ^ j := by rw [← p2_add, h, p64]
  rw [hW, em_mul _ _ (p2_pos j)]
theorem low_hi {hi lo m : Int} {n : Nat} (m0 : 0 ≤ m) (l0 : 0 ≤ lo) (l1 : lo < 18446744073709551616) (h : hi * 18446744073709551616 + lo = m * 18446744073709551616 / 2 ^ n) :
    m / 2 ^ n = hi ∧ (m % 2 ^ n ≠ 0 ↔ lo ≠ 0 ∨ m * 18446744073709551616 % 2 ^ n ≠ 0) := by
  have hp := p2_pos n
  have a1 : m / 2 ^ n = hi := by
    have : m * 18446744073709551616 / 2 ^ n / 18446744073709551616 = m / 2 ^ n := by
      rw [Int.ediv_ediv_of_nonneg (by omega), Int.mul_ediv_mul_of_pos_left _ _ (by decide)]
    rw [← this, ← h]
    omega
  have a2 := Int.mul_ediv_add_emod m (2 ^ n)
  have a3 := Int.mul_ediv_add_emod (m * 18446744073709551616) (2 ^ n)
  rw [← h] at a3
  rw [a1] at a2
  have r0 := Int.emod_nonneg (m * 18446744073709551616) (b := 2 ^ n) (by omega)
  have t0 := Int.emod_nonneg m (b := 2 ^ n) (by omega)
  rw [Int.mul_add, ← Int.mul_assoc] at a3
  have b0 := Int.mul_nonneg (show (0 : Int) ≤ 2 ^ n by omega) l0
  have key : (m % 2 ^ n) * 18446744073709551616 = 2 ^ n * lo + m * 18446744073709551616 % 2 ^ n := by omega
  refine ⟨a1, ?_⟩
  constructor
  · intro q1
    by_cases q2 : lo = 0
    · refine .inr fun q3 => q1 ?_
      rw [q2, q3] at key
      omega
    · exact .inl q2
  · rintro (q | q) q1
    · rw [q1] at key
      have := Int.mul_pos hp (show 0 < lo by omega)
      omega
    · rw [q1] at key
      omega
theorem sum_div {am bm : Int} {d : Nat} : (am * 2 ^ d + bm) / 2 ^ d = am + bm / 2 ^ d ∧ (am * 2 ^ d + bm) % 2 ^ d = bm % 2 ^ d := by
  have hp := p2_pos d
  rw [Int.mul_comm am, Int.add_comm]
  rw [Int.add_mul_ediv_left _ _ (by omega), Int.add_mul_emod_self_left, Int.add_comm]
  exact ⟨rfl, rfl⟩
theorem div_succ (v : Int) (d : Nat) : v / 2 ^ (d + 1) = v / 2 ^ d / 2 ∧ (v % 2 ^ (d + 1) ≠ 0 ↔ v / 2 ^ d % 2 ≠ 0 ∨ v % 2 ^ d ≠ 0) := by
  have hp := p2_pos d
  have e1 : v / 2 ^ (d + 1) = v / 2 ^ d / 2 := by
    rw [Int.ediv_ediv_of_nonneg (by omega), Int.pow_succ]
  refine ⟨e1, ?_⟩
  have a1 := Int.mul_ediv_add_emod v (2 ^ (d + 1))
  have a2 := Int.mul_ediv_add_emod v (2 ^ d)
  have a3 := Int.mul_ediv_add_emod (v / 2 ^ d) 2
  have r0 := Int.emod_nonneg v (b := 2 ^ d) (by omega)
  have r1 := Int.emod_nonneg (v / 2 ^ d) (b := 2) (by omega)
  rw [e1, p2_succ] at a1
  rw [p2_succ]
  generalize v / 2 ^ d / 2 = Q at *
  generalize v / 2 ^ d % 2 = R at *
  generalize v / 2 ^ d = q at *
  subst a3
  have b := Int.mul_nonneg (show (0 : Int) ≤ 2 ^ d by omega) r1
  have key : v % (2 * 2 ^ d) = 2 ^ d * R + v % 2 ^ d := by
    rw [Int.mul_add, ← Int.mul_assoc, Int.mul_comm (2 ^ d) 2] at a2
    omega
  rw [key]
  constructor
  · intro q1
    by_cases q2 : R = 0
    · refine .inr fun q3 => q1 (by rw [q2, q3]; omega)
    · exact .inl q2
  · rintro (q | q) q1
    · have := Int.mul_pos hp (show 0 < R by omega)
      omega
    · omega
theorem and_one {x : Int} (h0 : 0 ≤ x) (h1 : x < 18446744073709551616) : Go.bits .and .u64 x 1 = x % 2 := by
  have := bits_mask .u64 64 (by decide) wraps_u64 1 (by decide) x h0 (by rw [p64]; exact h1)
  simpa using this
theorem and_low {x : Int} (h0 : 0 ≤ x) (h1 : x < 18446744073709551616) : Go.bits .and .u64 x 4294967295 = x % 4294967296 := by
  have := bits_mask .u64 64 (by decide) wraps_u64 32 (by decide) x h0 (by rw [p64]; exact h1)
  simpa using this
theorem or_top {x : Int} (h0 : 0 ≤ x) (h1 : x < 9223372036854775808) : Go.bits .or .u64 x 9223372036854775808 = x + 9223372036854775808 := by
  rw [bits_or_comm, bits_join .u64 64 (by decide) wraps_u64 63 9223372036854775808 x (by decide) (by decide) (by decide) h0 (by rw [p63]; exact h1) (by rw [p64]; omega), Int.add_comm]
theorem or_sum {h l : Int} {b j : Nat} (hb : b + j = 64) (h0 : 0 ≤ h) (h1 : h < 2 ^ j) (l0 : 0 ≤ l) (l1 : l < 2 ^ b) : Go.bits .or .u64 (h * 2 ^ b) l = h * 2 ^ b + l ∧ h * 2 ^ b < 18446744073709551616 := by
  have hp := p2_pos b
  have hW : (18446744073709551616 : Int) = 2 ^ j * 2 ^ b := by rw [← p2_add, Nat.add_comm, hb, p64]
  have a1 := mul_lt_p b h1
  rw [← hW] at a1
  have a2 := Int.mul_nonneg h0 (show (0 : Int) ≤ 2 ^ b by omega)
  have a3 := p2_mono (i := b) (j := 64) (by omega)
  rw [p64] at a3
  refine ⟨?_, a1⟩
  exact bits_join .u64 64 (by decide) wraps_u64 b _ _ a2 (Int.mul_emod_left _ _) (by rw [p64]; exact a1) l0 l1 (by rw [p64]; omega)
/-- Two words, moved up so that the highest bit is 1. -/
theorem norm128 {hi lo : Int} {b j : Nat} (hb : b + j = 64) (h0 : 0 < hi) (hbl : bl hi = j) (l0 : 0 ≤ lo) (l1 : lo < 18446744073709551616) :
    9223372036854775808 ≤ hi * 2 ^ b + lo / 2 ^ j ∧ hi * 2 ^ b + lo / 2 ^ j < 18446744073709551616 ∧ (hi * 2 ^ b + lo / 2 ^ j) * 18446744073709551616 + (lo * 2 ^ b) % 18446744073709551616 = (hi * 18446744073709551616 + lo) * 2 ^ b ∧
    (lo * 2 ^ b) % 18446744073709551616 + 2 ^ b ≤ 18446744073709551616 ∧ 0 ≤ (lo * 2 ^ b) % 18446744073709551616 ∧
    Go.bits .or .u64 ((hi * 2 ^ b) % 18446744073709551616) (lo / 2 ^ j) = hi * 2 ^ b + lo / 2 ^ j := by
  have hW : (18446744073709551616 : Int) = 2 ^ j * 2 ^ b := by rw [← p2_add, Nat.add_comm, hb, p64]
  have pb := p2_pos b
  have pj := p2_pos j
  have g := bl_ge h0
  have l := bl_lt (n := hi) (by omega)
  rw [hbl] at g l
  rw [Int.toNat_natCast] at l
  have hj : 1 ≤ j := by have := bl_pos h0; omega
  rw [show ((j : Int) - 1).toNat = j - 1 by omega] at g
  have g2 := mul_le_p b g
  rw [← p2_add, show j - 1 + b = 63 by omega, p63] at g2
  have d0 : 0 ≤ lo / 2 ^ j := Int.ediv_nonneg l0 (by omega)
  have d1 : lo / 2 ^ j < 2 ^ b := Int.ediv_lt_of_lt_mul pj (by rw [Int.mul_comm, ← hW]; exact l1)
  obtain ⟨o1, o2⟩ := or_sum hb (by omega) l d0 d1
  have m1 : (lo * 2 ^ b) % 18446744073709551616 = (lo % 2 ^ j) * 2 ^ b := by rw [hW, em_mul _ _ pb]
  have r0 := Int.emod_nonneg lo (b := 2 ^ j) (by omega)
  have r1 : lo % 2 ^ j + 1 ≤ 2 ^ j := Int.emod_lt_of_pos lo pj
  have r2 := mul_le_p b r1
  rw [← hW, Int.add_mul, Int.one_mul] at r2
  have r3 := Int.mul_nonneg r0 (show (0 : Int) ≤ 2 ^ b by omega)
  have a5 : (hi + 1) * 2 ^ b ≤ 2 ^ j * 2 ^ b := mul_le_p b (by omega)
  rw [← hW, Int.add_mul, Int.one_mul] at a5
  have a6 := Int.mul_nonneg (show 0 ≤ hi by omega) (show (0 : Int) ≤ 2 ^ b by omega)
  refine ⟨by omega, by omega, ?_, by rw [m1]; exact r2, by rw [m1]; exact r3, by rw [Int.emod_eq_of_lt a6 o2]; exact o1⟩
  have e1 := Int.mul_ediv_add_emod lo (2 ^ j)
  rw [m1]
  have e2 : lo * 2 ^ b = (lo / 2 ^ j) * 18446744073709551616 + lo % 2 ^ j * 2 ^ b := by
    rw [hW, ← Int.mul_assoc, ← Int.add_mul]
    congr 1
    rw [Int.mul_comm (lo / 2 ^ j)]
    exact e1.symm
  rw [Int.add_mul, Int.add_mul, e2, Int.mul_right_comm hi]
  omega
/-- What is left of a difference, of which 128 bits are known. -/
theorem diff_fit {v e D q E r l : Int} {d b : Nat} {c : Bool} (q0 : 9223372036854775808 ≤ q) (q1 : q < 18446744073709551616) (hv : v * 18446744073709551616 = D * 2 ^ d + r) (r0 : 0 ≤ r) (r1 : r < 2 ^ d) (hq : q * 18446744073709551616 + l = D * 2 ^ b) (l0 : 0 ≤ l) (l1 : l + 2 ^ b ≤ 18446744073709551616) (he : e - b = E - d) (hc : c = true ↔ l ≠ 0 ∨ r ≠ 0) : Fit v e q E c := by
  have pb := p2_pos b
  have pd := p2_pos d
  have a1 : v * 2 ^ b * 18446744073709551616 = q * 2 ^ d * 18446744073709551616 + (l * 2 ^ d + r * 2 ^ b) := by
    have h1 : v * 18446744073709551616 * 2 ^ b = (D * 2 ^ d + r) * 2 ^ b := by rw [hv]
    have h2 : (q * 18446744073709551616 + l) * 2 ^ d = D * 2 ^ b * 2 ^ d := by rw [hq]
    rw [Int.add_mul] at h1 h2
    rw [Int.mul_right_comm D] at h2
    rw [Int.mul_right_comm v, ← h2] at h1
    rw [Int.mul_right_comm q] at h1
    omega
  have a2 := Int.mul_nonneg l0 (show (0 : Int) ≤ 2 ^ d by omega)
  have a3 := Int.mul_nonneg r0 (show (0 : Int) ≤ 2 ^ b by omega)
  have a4 : l * 2 ^ d + r * 2 ^ b < 2 ^ d * 18446744073709551616 := by
    have b1 := mul_le_p d l1
    rw [Int.add_mul] at b1
    have b2 : r * 2 ^ b < 2 ^ b * 2 ^ d := by
      have := mul_lt_p b r1
      rw [Int.mul_comm (2 ^ b) (2 ^ d)]
      exact this
    rw [Int.mul_comm (2 ^ d)]
    omega
  refine ⟨q0, q1, b, d, he, ?_, ?_, ?_⟩
  · refine le_of_p 64 ?_
    rw [p64]
    omega
  · refine lt_of_p 64 ?_
    rw [p64, Int.add_mul, Int.one_mul, Int.add_mul]
    omega
  · rw [hc]
    constructor
    · intro h1 h2
      rw [h2] at a1
      rcases h1 with h1 | h1
      · have := Int.mul_pos (show 0 < l by omega) pd
        omega
      · have := Int.mul_pos (show 0 < r by omega) pb
        omega
    · intro h1
      by_cases z : l = 0
      · refine .inr fun z2 => h1 ?_
        rw [z, z2] at a1
        refine eq_of_p 64 ?_
        rw [p64]
        omega
      · exact .inl z
theorem rnz_sg {v : Int} (hv : 0 < v) (n : Bool) (e : Int) (up : Bool) : rnz (sg n v) e up = rnd n v e (up != n) := by
  unfold rnz sg
  cases n
  · simp only [Bool.false_eq_true, if_false]
    rw [if_neg (by omega), decide_eq_false (by omega), Int.natAbs_of_nonneg (by omega)]
  · simp only [if_true]
    rw [if_neg (by omega), decide_eq_true (by omega), Int.natAbs_neg, Int.natAbs_of_nonneg (by omega)]
theorem addv_fin {a b : Nm} (ha : a.1 = 1) (hb : b.1 = 1) (up : Bool) : addv a b up = rnz (exs a b (min a.2.2.2 b.2.2.2)) (min a.2.2.2 b.2.2.2) up := by
  unfold addv
  rw [ha, hb]
  simp
theorem mulv_fin {a b : Nm} (ha : a.1 = 1) (hb : b.1 = 1) (up : Bool) : mulv a b up = rnd (a.2.1 != b.2.1) (a.2.2.1 * b.2.2.1) (a.2.2.2 + b.2.2.2) (up != (a.2.1 != b.2.1)) := by
  unfold mulv
  rw [ha, hb]
  simp
/-! ### what the functions of layers 5 and 6 on numbers answer -/
theorem shrR {x : Int} {s : Nat} (hs : s ≤ 64) : Int.fdiv x (2 ^ min (Int.toNat (s : Int)) IntKind.u64.bits) = x / 2 ^ s := by
  rw [Int.toNat_natCast, show IntKind.u64.bits = 64 from rfl, Nat.min_eq_left hs, Int.fdiv_eq_ediv_of_nonneg _ (by have := p2_pos s; omega)]
theorem shlR {x : Int} {s : Nat} (hs : s ≤ 64) : IntKind.u64.wrap (x * 2 ^ min (Int.toNat (s : Int)) IntKind.u64.bits) = (x * 2 ^ s) % 18446744073709551616 := by
  rw [Int.toNat_natCast, show IntKind.u64.bits = 64 from rfl, Nat.min_eq_left hs, wrap_u64]
theorem shr1 (x : Int) : Int.fdiv x (2 ^ min (Int.toNat 1) IntKind.u64.bits) = x / 2 := (shrR (s := 1) (by decide)).trans (by rw [Int.pow_one])
theorem shr8 (x : Int) : Int.fdiv x (2 ^ min (Int.toNat 8) IntKind.u64.bits) = x / 256 := shrR (s := 8) (by decide)
theorem shr16 (x : Int) : Int.fdiv x (2 ^ min (Int.toNat 16) IntKind.u64.bits) = x / 65536 := shrR (s := 16) (by decide)
theorem shr32 (x : Int) : Int.fdiv x (2 ^ min (Int.toNat 32) IntKind.u64.bits) = x / 4294967296 := shrR (s := 32) (by decide)
theorem shr63 (x : Int) : Int.fdiv x (2 ^ min (Int.toNat 63) IntKind.u64.bits) = x / 9223372036854775808 := shrR (s := 63) (by decide)
theorem shl1 (x : Int) : IntKind.u64.wrap (x * 2 ^ min (Int.toNat 1) IntKind.u64.bits) = (x * 2) % 18446744073709551616 := (shlR (s := 1) (by decide)).trans (by rw [Int.pow_one])
theorem orR (a b : Int) : IntKind.u64.wrap (BitVec.toNat (BitVec.ofInt IntKind.u64.bits a ||| BitVec.ofInt IntKind.u64.bits b)) = Go.bits .or .u64 a b := rfl
theorem andR (a b : Int) : IntKind.u64.wrap (BitVec.toNat (BitVec.ofInt IntKind.u64.bits a &&& BitVec.ofInt IntKind.u64.bits b)) = Go.bits .and .u64 a b := rfl
theorem w64 {x : Int} (h : -9223372036854775808 ≤ x) (h' : x < 9223372036854775808) : IntKind.i64.wrap x = x := wrap_small h (by omega)

theorem arith_fair_eq (k : Nat) (n : Nm) : arith_fair k n = some (fair n, ()) := by
  simp only [arith_fair, num_May_eq, Option.bind_some, fair]
  cases may n <;> rfl
theorem mayP_of {n : Nm} (h : may n = true) (h1 : n.2.2.1 < 18446744073709551616) : mayP n := by
  rcases may_cases h with rfl | h | h
  · exact .inl ⟨rfl, rfl, rfl, rfl⟩
  · exact .inr (.inl ⟨h.1, h.2.1, h1, h.2.2.1, h.2.2.2⟩)
  · exact .inr (.inr h)
theorem may_of {n : Nm} (h : mayP n) : may n = true := by
  obtain ⟨a, b, c, d⟩ := n
  rcases h with ⟨h1, h2, h3, h4⟩ | ⟨h1, h2, h3, h4, h5⟩ | ⟨h1, h2, h3⟩ <;> simp only at h1 h2 h3
  · simp only at h4; subst h1 h2 h3 h4; rfl
  · simp only at h4 h5; subst h1; simp [may, h2, h4, h5]
  · subst h1 h2 h3; simp [may]
theorem fair_wf {n : Nm} (h : n.2.2.1 < 18446744073709551616) : mayP (fair n) := by
  refine mayP_of (may_fair n) ?_
  unfold fair
  split
  · exact h
  · decide
theorem fairP {n : Nm} (h : mayP n) : fair n = n := fair_may (may_of h)
theorem neg_eq {n : Nm} (h : mayP n) : neg n = ngv n := by
  obtain ⟨a, b, c, d⟩ := n
  unfold neg ngv
  rw [fairP h]
  rcases h with ⟨h1, h2, h3, h4⟩ | ⟨h1, _⟩ | ⟨h1, _⟩ <;> simp only at h1
  · simp only at h2 h3 h4; subst h1 h2 h3 h4; rfl
  · subst h1; rfl
  · subst h1; rfl
theorem bnd_eq (k : Nat) (neg : Bool) (m e : Int) (away : Bool) : num_Bound k neg m e away = some (bnd neg m e away, ()) := by
  simp only [num_Bound, num_Inf_eq, num_huge, num_tiny, Option.bind_some, bnd, cond_eq_ite, decide_eq_true_eq]
  by_cases h : e > 1048576
  · cases away <;> simp [h]
  · by_cases h2 : e < -1048576
    · cases away <;> simp [h, h2]
    · simp [h, h2]
theorem grw_eq (k : Nat) (neg : Bool) (m e : Int) (cut away : Bool) (m0 : 9223372036854775808 ≤ m) (m1 : m < 18446744073709551616) (e0 : -9223372036854775808 ≤ e) (e1 : e < 9223372036854775807) : num_Grow k neg m e cut away = some (grw neg m e cut away, ()) := by
  simp only [num_Grow, bnd_eq, Option.bind_some, grw]
  cases cut
  · simp
  · cases away
    · simp
    · by_cases h : m + 1 = 18446744073709551616
      · have h2 : IntKind.u64.wrap (m + 1) = 0 := by rw [h]; rfl
        rw [h2, w64 (by omega) (by omega)]
        simp [h]
      · have h2 : IntKind.u64.wrap (m + 1) = m + 1 := u64w (by omega) (by omega)
        have h3 : ¬ m + 1 = 0 := by omega
        rw [h2, beq_f h3]
        simp [h]
theorem lower_eq (k : Nat) {m : Int} {n : Nat} (m0 : 9223372036854775808 ≤ m) (m1 : m < 18446744073709551616) (hn : n ≤ 4194304) :
    ∃ (hi lo : Int) (cut : Bool), arith_lower k m (n : Int) = some ((hi, lo, cut), ()) ∧ 0 ≤ hi ∧ hi < 18446744073709551616 ∧ 0 ≤ lo ∧ lo < 18446744073709551616 ∧ hi * 18446744073709551616 + lo = m * 18446744073709551616 / 2 ^ n ∧ (cut = true ↔ m * 18446744073709551616 % 2 ^ n ≠ 0) := by
  have hp := p2_pos n
  have d0 : ∀ i : Nat, 0 ≤ m / 2 ^ i ∧ m / 2 ^ i ≤ m := fun i => by
    have := p2_pos i
    exact ⟨Int.ediv_nonneg (by omega) (by omega), Int.ediv_le_self _ (by omega)⟩
  simp only [arith_lower, cond_eq_ite, decide_eq_true_eq]
  by_cases h : n < 64
  · obtain ⟨j, hj⟩ : ∃ j, n + j = 64 := ⟨64 - n, by omega⟩
    obtain ⟨a1, a2, a3⟩ := low_a (m := m) hj
    have w : IntKind.i64.wrap (64 - (n : Int)) = (j : Int) := by rw [w64 (by omega) (by omega)]; omega
    rw [if_pos (show (n : Int) < 64 by omega), if_neg (show ¬ (n : Int) < 0 by omega), w, if_neg (show ¬ (j : Int) < 0 by omega), shrR (by omega), shlR (by omega), a1, a2, a3]
    refine ⟨_, _, _, rfl, ?_, ?_, Int.emod_nonneg _ (by decide), Int.emod_lt_of_pos _ (by decide), ?_, ?_⟩
    · rw [← a3]; exact (d0 n).1
    · rw [← a3]; have := (d0 n).2; omega
    · have := Int.mul_ediv_add_emod (m * 2 ^ j) 18446744073709551616
      omega
    · simp
  · rw [if_neg (show ¬ (n : Int) < 64 by omega)]
    by_cases h2 : n < 128
    · obtain ⟨i, hi⟩ : ∃ i, n = i + 64 := ⟨n - 64, by omega⟩
      obtain ⟨j, hj⟩ : ∃ j, i + j = 64 := ⟨64 - i, by omega⟩
      obtain ⟨b1, b2⟩ := low_b (m := m) hi
      have w : IntKind.i64.wrap ((n : Int) - 64) = (i : Int) := by rw [w64 (by omega) (by omega)]; omega
      have w2 : IntKind.i64.wrap (64 - (i : Int)) = (j : Int) := by rw [w64 (by omega) (by omega)]; omega
      rw [if_pos (show (n : Int) < 128 by omega), w, if_neg (show ¬ (i : Int) < 0 by omega), w2, if_neg (show ¬ (j : Int) < 0 by omega), shrR (by omega), shlR (by omega), b1, b2, low_c hj]
      refine ⟨_, _, _, rfl, by decide, by decide, (d0 i).1, by have := (d0 i).2; omega, by omega, ?_⟩
      have hpj := p2_pos j
      have hm := Int.emod_nonneg m (b := 2 ^ i) (by have := p2_pos i; omega)
      simp only [bne_iff_ne, ne_eq]
      constructor
      · intro q1 q2; exact q1 (by rw [show m % 2 ^ i = 0 by omega]; omega)
      · intro q1 q2
        have := Int.mul_eq_zero.1 q2
        rcases this with h3 | h3
        · exact q1 (by rw [h3]; rfl)
        · omega
    · rw [if_neg (show ¬ (n : Int) < 128 by omega)]
      obtain ⟨i, rfl⟩ : ∃ i, n = 128 + i := ⟨n - 128, by omega⟩
      have hb := p2_mono (i := 128) (j := 128 + i) (by omega)
      have e128 : (2 : Int) ^ 128 = 340282366920938463463374607431768211456 := by decide
      have l1 : m * 18446744073709551616 < 2 ^ (128 + i) := by omega
      refine ⟨0, 0, true, rfl, by decide, by decide, by decide, by decide, ?_, ?_⟩
      · rw [Int.ediv_eq_zero_of_lt (by omega) l1]; rfl
      · rw [Int.emod_eq_of_lt (by omega) l1]
        simp
        omega
/-! how many bits 64 bits have -/
theorem tab_fin : ∀ i : Fin 256, (bytes0[i.val]?).map (fun y => (y.toNat : Int)) = some (bl (i.val : Int)) := by decide +kernel
theorem tab_get {z : Int} (h0 : 0 ≤ z) (h1 : z < 256) : ∃ y : UInt8, bytes0[Int.toNat z]? = some y ∧ (y.toNat : Int) = bl z := by
  obtain ⟨n, rfl⟩ := Int.eq_ofNat_of_zero_le h0
  have := tab_fin ⟨n, by omega⟩
  rw [Int.toNat_natCast]
  cases hq : bytes0[n]? with
  | none => simp only at this; rw [hq] at this; cases this
  | some y =>
    simp only at this
    rw [hq] at this
    exact ⟨y, rfl, by simpa using this⟩
theorem u8w {z : Int} (h0 : 0 ≤ z) (h1 : z < 256) : IntKind.u8.wrap z = z := by
  simp only [IntKind.wrap, IntKind.bits, IntKind.signed]
  simp
  omega
theorem len64 (k : Nat) {x : Int} (h0 : 0 ≤ x) (h1 : x < 18446744073709551616) : bits_Len64 k x = some (bl x, ()) := by
  have b8 : ∀ y : Int, 0 ≤ y → y < 256 → 0 ≤ bl y ∧ bl y ≤ 8 := fun y _ hy => ⟨bl_nonneg y, bl_le (m := 8) hy⟩
  simp only [bits_Len64, shr8, shr16, shr32, cond_eq_ite, decide_eq_true_eq]
  have look : ∀ (z c : Int) (j : Nat), 0 ≤ z → z < 256 → c = j → j ≤ 56 → x / 2 ^ j = z → (j = 0 ∨ 0 < z) →
      (if 0 ≤ IntKind.u8.wrap z then (bytes0[Int.toNat (IntKind.u8.wrap z)]?).bind fun y1 => (some (IntKind.i64.wrap (c + IntKind.i64.wrap (y1.toNat : Int)), ()) : Option (HL [(.int .i64)])) else none) = some (bl x, ()) := by
    intro z c j z0 z1 hc hj hx hp
    obtain ⟨y, hy, e⟩ := tab_get z0 z1
    have hb := b8 z z0 z1
    rw [u8w z0 z1, if_pos z0, hy, Option.bind_some, e, w64 (x := bl z) (by omega) (by omega), w64 (by omega) (by omega), hc]
    have ee : (j : Int) + bl z = bl x := by
      rcases hp with rfl | hp
      · rw [Int.pow_zero, Int.ediv_one] at hx; rw [hx]; simp
      · rw [bl_shift (x := x) j (by rw [hx]; exact hp), hx]
    rw [ee]
  by_cases c1 : x ≥ 4294967296
  · rw [if_pos c1]
    by_cases c2 : x / 4294967296 ≥ 65536
    · rw [if_pos c2]
      by_cases c3 : x / 4294967296 / 65536 ≥ 256
      · rw [if_pos c3]; exact look _ _ 56 (by omega) (by omega) (by decide) (by omega) (by omega) (.inr (by omega))
      · rw [if_neg c3]; exact look _ _ 48 (by omega) (by omega) (by decide) (by omega) (by omega) (.inr (by omega))
    · rw [if_neg c2]
      by_cases c3 : x / 4294967296 ≥ 256
      · rw [if_pos c3]; exact look _ _ 40 (by omega) (by omega) (by decide) (by omega) (by omega) (.inr (by omega))
      · rw [if_neg c3]; exact look _ _ 32 (by omega) (by omega) (by decide) (by omega) (by omega) (.inr (by omega))
  · rw [if_neg c1]
    by_cases c2 : x ≥ 65536
    · rw [if_pos c2]
      by_cases c3 : x / 65536 ≥ 256
      · rw [if_pos c3]; exact look _ _ 24 (by omega) (by omega) (by decide) (by omega) (by omega) (.inr (by omega))
      · rw [if_neg c3]; exact look _ _ 16 (by omega) (by omega) (by decide) (by omega) (by omega) (.inr (by omega))
    · rw [if_neg c2]
      by_cases c3 : x ≥ 256
      · rw [if_pos c3]; exact look _ _ 8 (by omega) (by omega) (by decide) (by omega) (by omega) (.inr (by omega))
      · rw [if_neg c3]; exact look _ _ 0 (by omega) (by omega) (by decide) (by omega) (by omega) (.inl rfl)
theorem lz64 (k : Nat) {x : Int} (h0 : 0 ≤ x) (h1 : x < 18446744073709551616) : bits_LeadingZeros64 k x = some (64 - bl x, ()) := by
  have e3 := bl_le (n := x) (m := 64) (by rw [p64]; exact h1)
  have e4 := bl_nonneg x
  simp only [bits_LeadingZeros64]
  rw [len64 k h0 h1, Option.bind_some, w64 (by omega) (by omega)]
theorem add64R {x y : Int} (x0 : 0 ≤ x) (y0 : 0 ≤ y) : add64F (x, y, 0, ()) = some ((x + y) % 18446744073709551616, (x + y) / 18446744073709551616, ()) := by
  simp only [add64F]
  rw [if_pos ⟨x0, y0, by decide, by decide⟩, Int.add_zero]
theorem plus_eq (k : Nat) {am ae bm be : Int} (q1 q2 : Int) (an bn up : Bool) {d : Nat} (a0 : 9223372036854775808 ≤ am) (a1 : am < 18446744073709551616) (b0 : 9223372036854775808 ≤ bm) (b1 : bm < 18446744073709551616) (e0 : -1048576 ≤ be) (e1 : ae ≤ 1048576) (hd : ae = be + d) :
    arith_plus k (q1, an, am, ae) (q2, bn, bm, be) up = some (rnd an (am * 2 ^ d + bm) be (up != an), ()) := by
  obtain ⟨hi, lo, cut, hl, i0, i1, l0, l1, hv, hc⟩ := lower_eq k b0 b1 (n := d) (by omega)
  obtain ⟨hh, hr⟩ := low_hi (by omega) l0 l1 hv
  obtain ⟨s1, s2⟩ := sum_div (am := am) (bm := bm) (d := d)
  obtain ⟨s3, s4⟩ := div_succ (am * 2 ^ d + bm) d
  rw [hh] at s1
  rw [s1] at s3 s4
  rw [← hc] at hr
  rw [s2, hr] at s4
  have e : IntKind.i64.wrap (ae - be) = (d : Int) := by rw [w64 (by omega) (by omega)]; omega
  have ne : (!(up == an)) = (up != an) := rfl
  simp only [arith_plus, e, hl, Option.bind_some, add64R (show 0 ≤ am by omega) i0, shr1, orR, andR, ne]
  by_cases c : am + hi < 18446744073709551616
  · have m1 : (am + hi) % 18446744073709551616 = am + hi := by omega
    have m2 : (am + hi) / 18446744073709551616 = 0 := by omega
    have f : ∀ cc : Bool, (cc = true ↔ bm % 2 ^ d ≠ 0) → num_Grow k an (am + hi) ae cc (up != an) = some (rnd an (am * 2 ^ d + bm) be (up != an), ()) := fun cc h => by
      rw [grw_eq k _ _ _ _ _ (by omega) c (by omega) (by omega), rnd_fit (div_fit (c := cc) (by omega) c s1 (by rw [s2]; exact h)), hd]
    rw [m1, m2]
    cases cut
    · have := f (lo != 0) (by rw [hr]; simp)
      simp only [cond_false, this, Option.bind_some, bne_self_eq_false]
    · have := f true (by rw [hr]; simp)
      simp only [cond_true, cond_false, this, Option.bind_some, bne_self_eq_false]
  · have m1 : (am + hi) % 18446744073709551616 = am + hi - 18446744073709551616 := by omega
    have m2 : (am + hi) / 18446744073709551616 = 1 := by omega
    have w : IntKind.i64.wrap (ae + 1) = ae + 1 := w64 (by omega) (by omega)
    have o : Go.bits .or .u64 ((am + hi - 18446744073709551616) / 2) 9223372036854775808 = (am + hi) / 2 := by
      rw [or_top (by omega) (by omega)]; omega
    have f : ∀ cc : Bool, (cc = true ↔ (am * 2 ^ d + bm) % 2 ^ (d + 1) ≠ 0) → num_Grow k an ((am + hi) / 2) (ae + 1) cc (up != an) = some (rnd an (am * 2 ^ d + bm) be (up != an), ()) := fun cc h => by
      rw [grw_eq k _ _ _ _ _ (by omega) (by omega) (by omega) (by omega), rnd_fit (div_fit (c := cc) (by omega) (by omega) s3 h), hd, show be + (d : Int) + 1 = be + ((d + 1 : Nat) : Int) by omega]
    have n1 : ((1 : Int) != 0) = true := rfl
    have a1' : Go.bits .and .u64 (am + hi - 18446744073709551616) 1 = (am + hi - 18446744073709551616) % 2 := and_one (by omega) (by omega)
    rw [m1, m2]
    simp only [o, w, a1']
    cases cut
    · by_cases z : lo = 0
      · have := f ((am + hi - 18446744073709551616) % 2 != 0) (by rw [s4]; simp [z]; omega)
        have z2 : (lo != 0) = false := by simp [z]
        simp only [cond_false, n1, cond_true, z2]
        erw [this]
        rfl
      · have := f true (by rw [s4]; simp [z])
        have z2 : (lo != 0) = true := by simp [z]
        simp only [cond_false, n1, cond_true, z2]
        erw [this]
        rfl
    · have := f true (by rw [s4]; simp)
      simp only [cond_true, n1]
      erw [this]
      rfl
/-! ### limbs and their values -/
/-- Each is a limb. -/
def U (l : List Int) : Prop := ∀ x ∈ l, 0 ≤ x ∧ x < 4294967296
/-- The value, the lowest limb first. -/
def val : List Int → Int
  | [] => 0
  | x :: xs => x + 4294967296 * val xs
def limN (n : Nat) : List Int := if n = 0 then [] else ((n % 4294967296 : Nat) : Int) :: limN (n / 4294967296)
termination_by n
decreasing_by omega
/-- The limbs of a number that is not below nought, without noughts at their end. -/
def lim (n : Int) : List Int := limN n.toNat

theorem U_nil : U [] := fun _ h => by simp at h
theorem U_cons {x : Int} {l : List Int} : U (x :: l) ↔ (0 ≤ x ∧ x < 4294967296) ∧ U l := by simp [U]
theorem U_append {a b : List Int} : U (a ++ b) ↔ U a ∧ U b := by
  simp only [U, List.mem_append]
  exact ⟨fun h => ⟨fun x hx => h x (.inl hx), fun x hx => h x (.inr hx)⟩, fun h x hx => hx.elim (h.1 x) (h.2 x)⟩
theorem U_take {l : List Int} (h : U l) (n : Nat) : U (l.take n) := fun x hx => h x (List.mem_of_mem_take hx)
theorem U_drop {l : List Int} (h : U l) (n : Nat) : U (l.drop n) := fun x hx => h x (List.mem_of_mem_drop hx)
theorem U_replicate (n : Nat) : U (List.replicate n (0 : Int)) := fun x hx => by
  have := List.eq_of_mem_replicate hx
  omega
theorem U_set {l : List Int} (h : U l) (i : Nat) {x : Int} (h0 : 0 ≤ x) (h1 : x < 4294967296) : U (l.set i x) := fun y hy => by
  rcases List.mem_or_eq_of_mem_set hy with hy | rfl
  · exact h y hy
  · exact ⟨h0, h1⟩
theorem U_getD {l : List Int} (h : U l) (i : Nat) : 0 ≤ l.getD i 0 ∧ l.getD i 0 < 4294967296 := by
  rw [List.getD_eq_getElem?_getD]
  by_cases hi : i < l.length
  · rw [List.getElem?_eq_getElem hi]
    exact h _ (List.getElem_mem hi)
  · rw [List.getElem?_eq_none (by omega)]
    simp
theorem U_single {x : Int} (h0 : 0 ≤ x) (h1 : x < 4294967296) : U [x] := by simp [U, h0, h1]
/-- A power of 2^32, as a function of its own (the arithmetic's tactics take it as a letter). -/
def pw : Nat → Int
  | 0 => 1
  | n + 1 => 4294967296 * pw n
theorem pw_eq (i : Nat) : pw i = 4294967296 ^ i := by
  induction i with
  | zero => rfl
  | succ i ih => rw [pw, ih, Int.pow_succ, Int.mul_comm]
theorem pw_pos (i : Nat) : 0 < pw i := by
  induction i with
  | zero => decide
  | succ i ih => rw [pw]; omega
@[simp] theorem pw_zero : pw 0 = 1 := rfl
theorem pw_succ (i : Nat) : pw (i + 1) = 4294967296 * pw i := rfl
theorem pw_add (i j : Nat) : pw (i + j) = pw i * pw j := by
  induction i with
  | zero => rw [Nat.zero_add, pw_zero, Int.one_mul]
  | succ i ih => rw [show i + 1 + j = (i + j) + 1 by omega, pw_succ, pw_succ, ih, Int.mul_assoc]
theorem pw_mono {i j : Nat} (h : i ≤ j) : pw i ≤ pw j := by
  obtain ⟨d, rfl⟩ := Nat.le.dest h
  rw [pw_add]
  have h1 := pw_pos i
  have h2 : 1 ≤ pw d := by have := pw_pos d; omega
  have := Int.mul_le_mul_of_nonneg_left h2 (c := pw i) (by omega)
  omega

@[simp] theorem val_nil : val [] = 0 := rfl
@[simp] theorem val_cons (x : Int) (l : List Int) : val (x :: l) = x + 4294967296 * val l := rfl
theorem val_nonneg {l : List Int} (h : U l) : 0 ≤ val l := by
  induction l with
  | nil => exact Int.le_refl 0
  | cons x l ih =>
    obtain ⟨h1, h2⟩ := U_cons.1 h
    have := ih h2
    rw [val_cons]
    omega
theorem val_lt {l : List Int} (h : U l) : val l < pw l.length := by
  induction l with
  | nil => decide
  | cons x l ih =>
    obtain ⟨h1, h2⟩ := U_cons.1 h
    have := ih h2
    rw [val_cons, List.length_cons, pw_succ]
    omega
theorem val_append (a b : List Int) : val (a ++ b) = val a + pw a.length * val b := by
  induction a with
  | nil => simp
  | cons x a ih =>
    rw [List.cons_append, val_cons, val_cons, ih, List.length_cons, pw_succ]
    grind
theorem val_replicate (n : Nat) : val (List.replicate n 0) = 0 := by
  induction n with
  | zero => rfl
  | succ n ih => rw [List.replicate_succ, val_cons, ih]; rfl
theorem val_split (l : List Int) (i : Nat) (h : i ≤ l.length) : val l = val (l.take i) + pw i * val (l.drop i) := by
  have := val_append (l.take i) (l.drop i)
  rw [List.take_append_drop, List.length_take, Nat.min_eq_left h] at this
  exact this
theorem drop_eq {l : List Int} {i : Nat} (h : i < l.length) : l.drop i = l.getD i 0 :: l.drop (i + 1) := by
  rw [List.drop_eq_getElem_cons h, List.getD_eq_getElem?_getD, List.getElem?_eq_getElem h]
  rfl
theorem val_drop {l : List Int} {i : Nat} (h : i < l.length) : val (l.drop i) = l.getD i 0 + 4294967296 * val (l.drop (i + 1)) := by rw [drop_eq h, val_cons]
theorem take_succ {l : List Int} {i : Nat} (h : i < l.length) : l.take (i + 1) = l.take i ++ [l.getD i 0] := by
  rw [List.take_succ_eq_append_getElem h, List.getD_eq_getElem?_getD, List.getElem?_eq_getElem h]
  rfl
theorem val_take_succ {l : List Int} {i : Nat} (h : i < l.length) : val (l.take (i + 1)) = val (l.take i) + pw i * l.getD i 0 := by
  rw [take_succ h, val_append, List.length_take, Nat.min_eq_left (by omega)]
  simp
theorem val_set {l : List Int} {i : Nat} (h : i < l.length) (x : Int) : val (l.set i x) = val l + pw i * (x - l.getD i 0) := by
  induction l generalizing i with
  | nil => simp at h
  | cons y l ih =>
    cases i with
    | zero => simp; omega
    | succ i =>
      have := ih (i := i) (by simpa using h)
      rw [List.set_cons_succ, val_cons, val_cons, this, pw_succ]
      have e : (y :: l).getD (i + 1) 0 = l.getD i 0 := rfl
      rw [e]
      grind
theorem take_set {l : List Int} {i : Nat} {x : Int} : (l.set i x).take i = l.take i := by
  rw [List.take_set_of_le (by omega)]
theorem getD_set_self {l : List Int} {i : Nat} (h : i < l.length) (x : Int) : (l.set i x).getD i 0 = x := by
  rw [List.getD_eq_getElem?_getD, List.getElem?_set_self h]
  rfl
theorem getD_set_ne {l : List Int} {i j : Nat} (h : i ≠ j) (x : Int) : (l.set i x).getD j 0 = l.getD j 0 := by
  rw [List.getD_eq_getElem?_getD, List.getElem?_set_ne h, List.getD_eq_getElem?_getD]
theorem drop_set_lt {l : List Int} {i j : Nat} (h : i < j) (x : Int) : (l.set i x).drop j = l.drop j := by
  rw [List.drop_set_of_lt h]

theorem limN_zero : limN 0 = [] := by unfold limN; simp
theorem limN_pos {n : Nat} (h : 0 < n) : limN n = ((n % 4294967296 : Nat) : Int) :: limN (n / 4294967296) := by
  rw [limN, if_neg (by omega)]
@[simp] theorem lim_zero : lim 0 = [] := limN_zero
theorem lim_pos {n : Int} (h : 0 < n) : lim n = (n % 4294967296) :: lim (n / 4294967296) := by
  unfold lim
  rw [limN_pos (by omega)]
  have e1 : ((n.toNat % 4294967296 : Nat) : Int) = n % 4294967296 := by omega
  have e2 : n.toNat / 4294967296 = (n / 4294967296).toNat := by omega
  rw [e1, e2]
theorem lim_ind {motive : (n : Int) → 0 ≤ n → Prop} (zero : motive 0 (by omega)) (pos : ∀ (n : Int) (h : 0 < n), motive (n / 4294967296) (by omega) → motive n (by omega)) (n : Int) (h : 0 ≤ n) : motive n h := by
  obtain ⟨m, rfl⟩ : ∃ m : Nat, n = m := ⟨n.toNat, by omega⟩
  induction m using Nat.strongRecOn with
  | _ m ih =>
    by_cases hm : m = 0
    · subst hm; exact zero
    · exact pos m (by omega) (ih (m / 4294967296) (by omega) (by omega))
theorem val_lim {n : Int} (h : 0 ≤ n) : val (lim n) = n := by
  induction n, h using lim_ind with
  | zero => simp
  | pos n h ih => rw [lim_pos h, val_cons, ih]; omega
theorem U_lim {n : Int} (h : 0 ≤ n) : U (lim n) := by
  induction n, h using lim_ind with
  | zero => simpa using U_nil
  | pos n h ih => rw [lim_pos h]; exact U_cons.2 ⟨by omega, ih⟩
theorem lim_len {n : Int} (h : 0 ≤ n) (L : Nat) (hl : n < pw L) : (lim n).length ≤ L := by
  induction n, h using lim_ind generalizing L with
  | zero => simp
  | pos n h ih =>
    cases L with
    | zero => simp at hl; omega
    | succ L =>
      rw [lim_pos h, List.length_cons]
      have := ih L (by rw [pw_succ] at hl; omega)
      omega
theorem lim_len_gt {n : Int} (L : Nat) (hl : pw L ≤ n) : L < (lim n).length := by
  have h : 0 ≤ n := by have := pw_pos L; omega
  have h1 := val_lt (U_lim h)
  rw [val_lim h] at h1
  by_cases hq : L < (lim n).length
  · exact hq
  · have := pw_mono (i := (lim n).length) (j := L) (by omega)
    omega
theorem lim_ne_nil {n : Int} (h : 0 < n) : lim n ≠ [] := by rw [lim_pos h]; simp
theorem lim_nil_iff {n : Int} (h : 0 ≤ n) : (lim n).length = 0 ↔ n = 0 := by
  constructor
  · intro h0
    have h1 : lim n = [] := List.eq_nil_of_length_eq_zero h0
    have := val_lim h
    rw [h1] at this
    simpa using this.symm
  · rintro rfl; simp
/-- The last limb is not nought. -/
theorem lim_last {n : Int} (h : 0 < n) : (lim n).getD ((lim n).length - 1) 0 ≠ 0 := by
  have h0 : 0 ≤ n := by omega
  have key : 0 < n → (lim n).getD ((lim n).length - 1) 0 ≠ 0 := by
    induction n, h0 using lim_ind with
    | zero => intro h; omega
    | pos n h ih =>
      intro _
      rw [lim_pos h]
      by_cases hz : n / 4294967296 = 0
      · rw [hz, lim_zero]
        simp
        omega
      · have h1 := ih (by omega) (by omega)
        have h2 := lim_ne_nil (n := n / 4294967296) (by omega)
        have h3 : 0 < (lim (n / 4294967296)).length := List.length_pos_iff.2 h2
        have e : (n % 4294967296 :: lim (n / 4294967296)).length - 1 = ((lim (n / 4294967296)).length - 1) + 1 := by simp; omega
        rw [e]
        exact h1
  exact key h
theorem lim_of_norm {l : List Int} (h : U l) (hn : 0 < l.length → l.getD (l.length - 1) 0 ≠ 0) : lim (val l) = l := by
  induction l with
  | nil => simp
  | cons x l ih =>
    obtain ⟨h1, h2⟩ := U_cons.1 h
    have h0 := val_nonneg h2
    have hpos : 0 < val (x :: l) := by
      rw [val_cons]
      cases l with
      | nil => have := hn (by simp); simp at this; simp; omega
      | cons y l =>
        have h3 := ih h2 (fun _ => hn (by simp))
        by_cases hz : val (y :: l) = 0
        · rw [hz] at h3; simp at h3
        · omega
    rw [lim_pos hpos, val_cons]
    have e1 : (x + 4294967296 * val l) % 4294967296 = x := by omega
    have e2 : (x + 4294967296 * val l) / 4294967296 = val l := by omega
    rw [e1, e2, ih h2]
    intro hl
    have := hn (by simp)
    rw [List.length_cons, Nat.add_sub_cancel] at this
    obtain ⟨m, hm⟩ : ∃ m, l.length = m + 1 := ⟨l.length - 1, by omega⟩
    rw [hm] at this ⊢
    exact this
theorem lim_inj {a b : Int} (ha : 0 ≤ a) (hb : 0 ≤ b) (h : lim a = lim b) : a = b := by
  rw [← val_lim ha, ← val_lim hb, h]
/-- A list whose last limb is nought has the value of what is ahead of it. -/
theorem val_take_last {l : List Int} (h0 : 0 < l.length) (hz : l.getD (l.length - 1) 0 = 0) : val (l.take (l.length - 1)) = val l := by
  have h1 := val_take_succ (l := l) (i := l.length - 1) (by omega)
  rw [hz, show l.length - 1 + 1 = l.length by omega, List.take_length] at h1
  omega
theorem U_ext {a b : List Int} (ha : U a) (hb : U b) (hl : a.length = b.length) (hv : val a = val b) : a = b := by
  induction a generalizing b with
  | nil => cases b with
    | nil => rfl
    | cons _ _ => simp at hl
  | cons x a ih => cases b with
    | nil => simp at hl
    | cons y b =>
      obtain ⟨h1, h2⟩ := U_cons.1 ha
      obtain ⟨h3, h4⟩ := U_cons.1 hb
      rw [val_cons, val_cons] at hv
      have e1 : x = y := by omega
      have e2 : val a = val b := by omega
      rw [e1, ih h2 h4 (by simpa using hl) e2]
/-- Order: the highest limb that parts. -/
theorem val_lt_top {a b : List Int} {k : Nat} (ha : U a) (hb : U b) (hka : k < a.length) (hkb : k < b.length) (hd : a.drop (k + 1) = b.drop (k + 1)) (hlt : a.getD k 0 < b.getD k 0) : val a < val b := by
  rw [val_split a k (by omega), val_split b k (by omega), val_drop hka, val_drop hkb, hd]
  have h1 := val_lt (U_take ha k)
  have h2 := val_nonneg (U_take hb k)
  rw [List.length_take, Nat.min_eq_left (by omega)] at h1
  have h3 : pw k * (a.getD k 0 + 1) ≤ pw k * b.getD k 0 := Int.mul_le_mul_of_nonneg_left (by omega) (by have := pw_pos k; omega)
  grind
theorem lim_len_lt {a b : Int} (ha : 0 ≤ a) (h : (lim a).length < (lim b).length) : a < b := by
  by_cases hq : a < b
  · exact hq
  · have hb : b < pw (lim a).length := by
      have := val_lt (U_lim ha)
      rw [val_lim ha] at this
      omega
    by_cases hb0 : 0 ≤ b
    · have := lim_len hb0 _ hb
      omega
    · have hz : b.toNat = 0 := by omega
      unfold lim at h
      rw [hz, limN_zero] at h
      simp at h

/-- -1, 0 or 1. -/
def sgz (x : Int) : Int := if x < 0 then -1 else if 0 < x then 1 else 0
theorem sgz_neg {x : Int} (h : x < 0) : sgz x = -1 := by simp [sgz, h]
theorem sgz_pos {x : Int} (h : 0 < x) : sgz x = 1 := by unfold sgz; rw [if_neg (by omega), if_pos h]
theorem sgz_zero : sgz 0 = 0 := rfl
theorem p2_limb (i : Nat) : pw i = 2 ^ (32 * i) := by
  rw [pw_eq, Int.pow_mul]
  rfl
/-- The value of the limbs: the highest one, and what is behind it. -/
theorem val_top {n : Int} (h : 0 < n) : n / pw ((lim n).length - 1) = (lim n).getD ((lim n).length - 1) 0 := by
  have hl : 0 < (lim n).length := List.length_pos_iff.2 (lim_ne_nil h)
  have hu := U_lim (n := n) (by omega)
  have e := val_split (lim n) ((lim n).length - 1) (by omega)
  rw [val_lim (by omega), val_drop (by omega), show (lim n).length - 1 + 1 = (lim n).length by omega, List.drop_length, val_nil] at e
  have h1 := val_lt (U_take hu ((lim n).length - 1))
  have h2 := val_nonneg (U_take hu ((lim n).length - 1))
  rw [List.length_take, Nat.min_eq_left (by omega)] at h1
  have hp := pw_pos ((lim n).length - 1)
  rw [Int.mul_zero, Int.add_zero] at e
  have key : ∀ (A p t : Int), 0 ≤ A → A < p → 0 < p → (A + p * t) / p = t := fun A p t a1 a2 a3 => by
    rw [Int.add_mul_ediv_left _ _ (by omega), Int.ediv_eq_zero_of_lt a1 a2]
    omega
  have e5 := key _ _ ((lim n).getD ((lim n).length - 1) 0) h2 h1 hp
  rw [← e] at e5
  exact e5
theorem val_full {l : List Int} {n : Nat} (h : l.length = n + 1) : val l = val (l.take n) + pw n * l.getD n 0 := by
  have := val_take_succ (l := l) (i := n) (by omega)
  rw [← h, List.take_length] at this
  exact this
theorem take_out (l : List Int) (i : Nat) (h : l.length ≤ i) : l.take i = l := List.take_of_length_le h
theorem getD_out (l : List Int) (i : Nat) (h : l.length ≤ i) : l.getD i 0 = 0 := by
  rw [List.getD_eq_getElem?_getD, List.getElem?_eq_none h]
  rfl
theorem val_take_succ' (l : List Int) (i : Nat) : val (l.take (i + 1)) = val (l.take i) + pw i * l.getD i 0 := by
  by_cases h : i < l.length
  · exact val_take_succ h
  · rw [take_out l _ (by omega), take_out l _ (by omega), getD_out l i (by omega), Int.mul_zero, Int.add_zero]
theorem val_set_take {l : List Int} {i : Nat} (h : i < l.length) (x : Int) : val ((l.set i x).take (i + 1)) = val (l.take i) + pw i * x := by
  rw [val_take_succ (by simpa using h), take_set, getD_set_self h]

theorem step_add {P A A1 B1 c x y r q : Int} (e : r + 4294967296 * q = x + y + c) (he : A + P * c = A1 + B1) : A + P * r + 4294967296 * P * q = A1 + P * x + (B1 + P * y) := by
  have h : P * (r + 4294967296 * q) = P * (x + y + c) := by rw [e]
  grind
theorem step_sub {P A A1 B1 c x y r q : Int} (e : r + 4294967296 * q = x - y - c) (he : A - P * c = A1 - B1) : A + P * r - 4294967296 * P * (-q) = A1 + P * x - (B1 + P * y) := by
  have h : P * (r + 4294967296 * q) = P * (x - y - c) := by rw [e]
  grind
theorem lim_len_mono {a b : Int} (ha : 0 ≤ a) (h : a ≤ b) : (lim a).length ≤ (lim b).length := by
  by_cases hq : (lim b).length < (lim a).length
  · have := lim_len_lt (a := b) (b := a) (by omega) hq
    omega
  · omega
/-- A number moved up. -/
def shlv (v n : Int) : Int := if n < 1 then v else if n > 16777216 then 0 else v * 2 ^ n.toNat
theorem val_div {l : List Int} (h : U l) {i : Nat} (hi : i ≤ l.length) : val l / pw i = val (l.drop i) := by
  have e := val_split l i hi
  have h1 := val_lt (U_take h i)
  have h2 := val_nonneg (U_take h i)
  rw [List.length_take, Nat.min_eq_left hi] at h1
  have hp := pw_pos i
  have key : ∀ (A p t : Int), 0 ≤ A → A < p → 0 < p → (A + p * t) / p = t := fun A p t a1 a2 a3 => by
    rw [Int.add_mul_ediv_left _ _ (by omega), Int.ediv_eq_zero_of_lt a1 a2]
    omega
  have e5 := key _ _ (val (l.drop i)) h2 h1 hp
  rw [← e] at e5
  exact e5
theorem val_drop' (l : List Int) (i : Nat) : val (l.drop i) = l.getD i 0 + 4294967296 * val (l.drop (i + 1)) := by
  by_cases h : i < l.length
  · exact val_drop h
  · rw [List.drop_of_length_le (by omega), List.drop_of_length_le (by omega), getD_out l i (by omega)]
    rfl
/-- A number moved down. -/
def shrv (v n : Int) : Int := if n < 1 then v else v / 2 ^ n.toNat
theorem val_zero_of {l : List Int} (h : ∀ q, l.getD q 0 = 0) : val l = 0 := by
  induction l with
  | nil => rfl
  | cons x l ih =>
    have h0 : x = 0 := h 0
    rw [val_cons, ih (fun q => h (q + 1)), h0]
    rfl
theorem zeros_above {l : List Int} (hu : U l) {j : Nat} (h : val l < pw j) (q : Nat) (hq : j ≤ q) : l.getD q 0 = 0 := by
  by_cases hl : q < l.length
  · have e := val_split l q (by omega)
    rw [val_drop hl] at e
    have h1 := val_nonneg (U_take hu q)
    have h2 := val_nonneg (U_drop hu (q + 1))
    have h3 := U_getD hu q
    have hm := pw_mono hq
    have hp := pw_pos q
    by_cases hz : l.getD q 0 = 0
    · exact hz
    · have := Int.mul_le_mul_of_nonneg_left (show 1 ≤ l.getD q 0 + 4294967296 * val (l.drop (q + 1)) by omega) (show 0 ≤ pw q by omega)
      omega
  · exact getD_out l q (by omega)
/-- The value of a list of which nothing is cut off but noughts. -/
theorem val_take_of_lt {l : List Int} (hu : U l) {j : Nat} (h : val l < pw j) : val (l.take j) = val l := by
  by_cases hl : j ≤ l.length
  · have e := val_split l j hl
    have h0 := val_nonneg (U_take hu j)
    have h1 := val_nonneg (U_drop hu j)
    have hp := pw_pos j
    by_cases hz : val (l.drop j) = 0
    · rw [hz, Int.mul_zero] at e; omega
    · have := Int.mul_le_mul_of_nonneg_left (show 1 ≤ val (l.drop j) by omega) (show 0 ≤ pw j by omega)
      omega
  · rw [take_out l j (by omega)]
theorem len_of (l : List Int) (h : U l) : (lim (val l)).length ≤ l.length := lim_len (val_nonneg h) _ (val_lt h)
theorem shlv_eq {v n : Int} (h0 : 0 ≤ n) (h1 : n ≤ 16777216) : shlv v n = v * 2 ^ n.toNat := by
  unfold shlv
  by_cases hc : n < 1
  · rw [if_pos hc, show n = 0 by omega]; simp
  · rw [if_neg hc, if_neg (by omega)]
theorem shrv_eq {v n : Int} (h0 : 0 ≤ n) : shrv v n = v / 2 ^ n.toNat := by
  unfold shrv
  by_cases hc : n < 1
  · rw [if_pos hc, show n = 0 by omega]; simp
  · rw [if_neg hc]
theorem snoc_val (l : List Int) (x : Int) : val (l ++ [x]) = val l + pw l.length * x := by rw [val_append]; simp
theorem U_snoc {l : List Int} (h : U l) {x : Int} (h0 : 0 ≤ x) (h1 : x < 4294967296) : U (l ++ [x]) := U_append.2 ⟨h, U_single h0 h1⟩
theorem step_row {V P S x y c r q : Int} (e : r + 4294967296 * q = x * y + c) (h : V + P * c = S * y) : V + P * r + 4294967296 * P * q = (S + P * x) * y := by
  have h1 : P * (r + 4294967296 * q) = P * (x * y + c) := by rw [e]
  grind
theorem p2_31 {s : Nat} (hs : s < 32) : 0 < (2 : Int) ^ s ∧ (2 : Int) ^ s ≤ 2147483648 := by
  have h2 := p2_mono (show s ≤ 31 by omega)
  have e : (2 : Int) ^ 31 = 2147483648 := rfl
  exact ⟨p2_pos s, by omega⟩
theorem val_div' {l : List Int} (h : U l) (i : Nat) : val l / pw i = val (l.drop i) := by
  by_cases hi : i ≤ l.length
  · exact val_div h hi
  · have h1 := val_lt h
    have h2 := pw_mono (show l.length ≤ i by omega)
    rw [List.drop_of_length_le (by omega), val_nil, Int.ediv_eq_zero_of_lt (val_nonneg h) (by omega)]
theorem bit_eq {l : List Int} (h : U l) (i : Nat) : (val l / 2 ^ i) % 2 = (l.getD (i / 32) 0 / 2 ^ (i % 32)) % 2 := by
  have hp := p2_pos (i % 32)
  have e1 : val l / 2 ^ i = val (l.drop (i / 32)) / 2 ^ (i % 32) := by
    rw [← val_div' h, p2_limb, Int.ediv_ediv_of_nonneg (by have := p2_pos (32 * (i / 32)); omega), ← p2_add, show 32 * (i / 32) + i % 32 = i by omega]
  have e2 : (4294967296 : Int) = 2 ^ (i % 32) * (2 * 2 ^ (31 - i % 32)) := by
    rw [← p2_succ, ← p2_add, show i % 32 + (31 - i % 32 + 1) = 32 by omega]
    rfl
  rw [e1, val_drop', e2, Int.mul_assoc, Int.add_mul_ediv_left _ _ (by omega), Int.mul_assoc, Int.add_mul_emod_self_left]
theorem div_unique {v D Q R : Int} (h : v = D * Q + R) (h0 : 0 ≤ R) (h1 : R < D) : v / D = Q ∧ v % D = R := by
  subst h
  rw [Int.add_comm]
  exact ⟨by rw [Int.add_mul_ediv_left _ _ (by omega), Int.ediv_eq_zero_of_lt h0 h1, Int.zero_add], by rw [Int.add_mul_emod_self_left, Int.emod_eq_of_lt h0 h1]⟩
theorem len_lim {v : Int} (hv : 0 ≤ v) (n : Nat) (h : v < 2 ^ n) : (lim v).length ≤ n / 32 + 1 := by
  refine lim_len hv _ ?_
  rw [p2_limb]
  exact Int.lt_of_lt_of_le h (p2_mono (by omega))
theorem bl_half {v : Int} (hv : 0 < v) (he : v % 2 = 0) : bl v = bl (v / 2) + 1 := by
  have := blp (v := v / 2) (by omega) 1
  rw [Int.pow_one, show v / 2 * 2 = v by omega] at this
  exact this
abbrev Dd := Bool × List Int × Int
/-- Which number s * 2^f is, its limbs odd. -/
def Rep (d : Dd) (s f : Int) : Prop := (s = 0 ∧ d = (false, [], 0)) ∨ ∃ (o : Int) (t : Nat), 0 < o ∧ o % 2 = 1 ∧ s ≠ 0 ∧ (s.natAbs : Int) = o * 2 ^ t ∧ d = (decide (s < 0), lim o, f + t)
theorem Rep.scale {d : Dd} {s f : Int} (j : Nat) (h : Rep d s (f + j)) : Rep d (s * 2 ^ j) f := by
  have hp := p2_pos j
  rcases h with ⟨rfl, h⟩ | ⟨o, t, o0, o1, s0, hs, hd⟩
  · exact .inl ⟨by omega, h⟩
  · refine .inr ⟨o, t + j, o0, o1, Int.mul_ne_zero s0 (by omega), ?_, ?_⟩
    · rw [Int.natAbs_mul, Int.natCast_mul, show ((((2 : Int) ^ j).natAbs : Nat) : Int) = 2 ^ j from Int.natAbs_of_nonneg (by omega), hs, p2_add, Int.mul_assoc]
    · rw [hd]
      have : decide (s * 2 ^ j < 0) = decide (s < 0) := by
        by_cases h2 : s < 0
        · rw [decide_eq_true h2, decide_eq_true (Int.mul_neg_of_neg_of_pos h2 hp)]
        · rw [decide_eq_false h2, decide_eq_false]
          have := Int.mul_pos (show 0 < s by omega) hp
          omega
      rw [this]
      congr 2
      omega
theorem sg_abs (neg : Bool) {v : Int} (hv : 0 ≤ v) : ((sg neg v).natAbs : Int) = v := by
  unfold sg
  cases neg
  · simp only [Bool.false_eq_true, if_false]; exact Int.natAbs_of_nonneg hv
  · simp only [if_true, Int.natAbs_neg]; exact Int.natAbs_of_nonneg hv
theorem sg_lt (neg : Bool) {v : Int} (hv : 0 < v) : decide (sg neg v < 0) = neg := by
  unfold sg
  cases neg
  · simp only [Bool.false_eq_true, if_false]; exact decide_eq_false (by omega)
  · simp only [if_true]; exact decide_eq_true (by omega)
theorem sg_ne (neg : Bool) {v : Int} (hv : 0 < v) : sg neg v ≠ 0 := by
  unfold sg
  cases neg
  · simp only [Bool.false_eq_true, if_false]; omega
  · simp only [if_true]; omega
theorem sg_of (s : Int) : sg (decide (s < 0)) s.natAbs = s := by
  unfold sg
  by_cases h : s < 0
  · rw [decide_eq_true h, if_pos rfl]; omega
  · rw [decide_eq_false h, if_neg (by decide)]; omega
theorem natAbs_lt_p {s : Int} {n : Nat} (h : bl s.natAbs ≤ n) : (s.natAbs : Int) < 2 ^ n := by
  have h1 := bl_lt (n := (s.natAbs : Int)) (by omega)
  have h2 := bl_nonneg (s.natAbs : Int)
  have h3 := p2_mono (show (bl (s.natAbs : Int)).toNat ≤ n by omega)
  omega
theorem bl_abs {s : Int} {n : Nat} (h0 : -(2 ^ n) < s) (h1 : s < 2 ^ n) : bl s.natAbs ≤ n := bl_le (by omega)
theorem mul_neg_p (x : Int) (n : Nat) : (-x) * 2 ^ n = -(x * 2 ^ n) := Int.neg_mul _ _
theorem sg_mulr (n : Bool) (x y : Int) : sg n (x * y) = sg n x * y := by
  unfold sg; split
  · rw [Int.neg_mul]
  · rfl
/-- The whole number of a finite one, or nought. -/
def sv (n : Nm) : Int := if n.1 = 1 then sg n.2.1 n.2.2.1 else 0
theorem sg_bd (n : Bool) {m : Int} (h0 : 0 ≤ m) {b : Int} (h1 : m < b) : -b < sg n m ∧ sg n m < b := by
  unfold sg; split <;> omega
theorem rnz_sv {a : Nm} (ha : mayP a) (h2 : a.1 ≠ 2) (up : Bool) : rnz (sv a) a.2.2.2 up = a := by
  obtain ⟨a1, a2, a3, a4⟩ := a
  rcases ha with ⟨h1, q2, q3, q4⟩ | ⟨h1, q2, q3, q4, q5⟩ | ⟨h1, _⟩ <;> simp only at h1
  · simp only at q2 q3 q4
    subst h1 q2 q3 q4
    rfl
  · subst h1
    simp only at q2 q3 q4 q5
    have e : sv (1, a2, a3, a4) = sg a2 a3 := rfl
    rw [e]
    simp only
    rw [rnz_sg (by omega), rnd_self q2 q3, bnd_in q4 q5]
  · exact absurd h1 h2
theorem sv_zero {a : Nm} (h : a.1 = 0) : sv a = 0 := by unfold sv; rw [if_neg (by omega)]
theorem addv_sv {a b : Nm} (ha : mayP a) (hb : mayP b) (a2 : a.1 ≠ 2) (b2 : b.1 ≠ 2) (up : Bool) (i j : Nat) (f : Int) (hi : f = a.2.2.2 - i) (hj : f = b.2.2.2 - j) (hf : f = min a.2.2.2 b.2.2.2) : rnz (sv a * 2 ^ i + sv b * 2 ^ j) f up = addv a b up := by
  have ha' := ha
  rcases ha with ⟨h1, _⟩ | ⟨h1, _⟩ | ⟨h1, _⟩
  · unfold addv
    rw [if_neg (fun h => a2 h.1), sv_zero h1, Int.zero_mul, Int.zero_add, hj, rnz_scale, show b.2.2.2 - (j : Int) + j = b.2.2.2 by omega, rnz_sv hb b2]
    by_cases z : b.1 = 0
    · rw [if_pos (.inr z)]
      rcases hb with ⟨g1, g2, g3, g4⟩ | ⟨g1, _⟩ | ⟨g1, _⟩
      · rcases ha' with ⟨_, k2, k3, k4⟩ | ⟨k1, _⟩ | ⟨k1, _⟩
        · obtain ⟨a1, a2, a3, a4⟩ := a
          obtain ⟨b1, b2, b3, b4⟩ := b
          simp only at h1 k2 k3 k4 g1 g2 g3 g4
          subst h1 k2 k3 k4 g1 g2 g3 g4
          rfl
        · omega
        · omega
      · omega
      · omega
    · rw [if_neg (by omega), if_pos (.inr h1)]
  · rcases hb with ⟨g1, _⟩ | ⟨g1, _⟩ | ⟨g1, _⟩
    · unfold addv
      rw [if_neg (fun h => a2 h.1), sv_zero g1, Int.zero_mul, Int.add_zero, hi, rnz_scale, show a.2.2.2 - (i : Int) + i = a.2.2.2 by omega, rnz_sv ha' a2, if_pos (.inr g1)]
    · rw [addv_fin h1 g1, hf]
      unfold exs sv
      rw [if_pos h1, if_pos g1]
      rw [show (a.2.2.2 - min a.2.2.2 b.2.2.2).toNat = i by omega, show (b.2.2.2 - min a.2.2.2 b.2.2.2).toNat = j by omega]
    · exact absurd g1 b2
  · exact absurd h1 a2
/-! ### the document's answers for layer 1: Trim, Cmp, Add, Sub -/
theorem gd {l : List Int} {i : Nat} (h : i < l.length) : l[i]? = some (l.getD i 0) := by
  rw [List.getElem?_eq_getElem h, List.getD_eq_getElem?_getD, List.getElem?_eq_getElem h]; rfl
theorem wsu {i : Nat} (h : i < 4611686018427387904) : IntKind.i64.wrap ((i : Int) + 1) = ((i + 1 : Nat) : Int) := by rw [w64 (by omega) (by omega)]; omega
theorem wpr {i : Nat} (h : i < 4611686018427387904) : IntKind.i64.wrap (((i + 1 : Nat) : Int) - 1) = (i : Int) := by rw [w64 (by omega) (by omega)]; omega
theorem u32w {x : Int} (h0 : 0 ≤ x) (h1 : x < 4294967296) : IntKind.u32.wrap x = x := by
  simp only [IntKind.wrap, IntKind.bits, IntKind.signed]
  simp
  omega
/-! ### the document's answers for layer 1: Mul, Len, Shl, Div, Shr -/
theorem td32 {m : Nat} (h : m < 4611686018427387904) : IntKind.i64.wrap (Int.tdiv (m : Int) 32) = ((m / 32 : Nat) : Int) := by
  rw [Int.tdiv_eq_ediv_of_nonneg (by omega), w64 (by omega) (by omega)]; omega
theorem tm32 (m : Nat) : IntKind.u64.wrap (Int.tmod (m : Int) 32) = ((m % 32 : Nat) : Int) := by
  rw [Int.tmod_eq_emod_of_nonneg (by omega), u64w (by omega) (by omega)]; omega
theorem one32 {s : Nat} (hs : s < 32) : IntKind.u32.wrap (1 * 2 ^ min (Int.toNat (s : Int)) IntKind.u32.bits) = 2 ^ s := by
  have hp := p2_31 hs
  rw [Int.toNat_natCast, show IntKind.u32.bits = 32 from rfl, Nat.min_eq_left (by omega), Int.one_mul, u32w (by omega) (by omega)]
/-! ### the document's exact numbers: sums, products, rounded -/
def dd (d : Dd) : (Bool × List Int) × Int := ((d.1, d.2.1), d.2.2)
end Go.Proofs.YtjjhfhhoefdjaaaGreatDoor.Rf.Pl
