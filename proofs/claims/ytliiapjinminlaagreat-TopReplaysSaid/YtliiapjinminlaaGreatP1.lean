/- Plain laws: what the functions answer, without the program's memory (part 1). No condition. -/
import Derived.Test.YtliiapjinminlaaGreatR2
import Derived.KernelRfl
import Derived.DataShut
import Derived.Laws.BitsLemmas
import Derived.Lib.EndianBits
namespace Go.Proofs.YtliiapjinminlaaGreat.Rf.Pl
open Go Go.Proofs
set_option linter.unusedVariables false
set_option linter.unusedSimpArgs false
abbrev Nm := Int × Bool × Int × Int
abbrev Iv := Bool × Nm × Nm
abbrev Sl := Nm × Iv × Iv
abbrev Tb := Nm × Iv × List Sl
abbrev TNm : Ty := (.pair (.int .i64) (.pair .bool (.pair (.int .u64) (.int .i64))))
abbrev TIv : Ty := (.pair .bool (.pair TNm TNm))
abbrev TSl : Ty := (.pair TNm (.pair TIv TIv))
theorem beqN (x y : Nm) : beqT TNm x y = decide (x = y) := by
 obtain ⟨a, b, c, d⟩ := x; obtain ⟨a', b', c', d'⟩ := y
 simp only [beqT, Prod.mk.injEq, Bool.decide_and]
 congr 1
theorem beqI (x y : Iv) : beqT TIv x y = decide (x = y) := by
 obtain ⟨a, b, c⟩ := x; obtain ⟨a', b', c'⟩ := y
 rw [show beqT TIv (a, b, c) (a', b', c') = ((a == a') && (beqT TNm b b' && beqT TNm c c')) from rfl, beqN, beqN]
 simp only [Prod.mk.injEq, Bool.decide_and]
 cases a <;> cases a' <;> rfl
instance decSl : DecidableEq Sl := fun x y => decidable_of_iff (x.1 = y.1 /\ x.2.1 = y.2.1 /\ x.2.2 = y.2.2) ⟨fun h => Prod.ext h.1 (Prod.ext h.2.1 h.2.2), fun h => h ▸ ⟨rfl, rfl, rfl⟩⟩
theorem beqS (x y : Sl) : beqT TSl x y = decide (x = y) := by
 obtain ⟨a, b, c⟩ := x; obtain ⟨a', b', c'⟩ := y
 rw [show beqT TSl (a, b, c) (a', b', c') = (beqT TNm a a' && (beqT TIv b b' && beqT TIv c c')) from rfl, beqN, beqI, beqI]
 simp only [Prod.mk.injEq, Bool.decide_and]
abbrev zN : Nm := (0, false, 0, 0)
abbrev inf (b : Bool) : Nm := (2, b, 0, 0)
def may (n : Nm) : Bool := (decide (n = zN)) || (n.1 == 1 && decide (9223372036854775808 <= n.2.2.1) && decide (-1048576 <= n.2.2.2) && decide (n.2.2.2 <= 1048576)) || (n.1 == 2 && n.2.2.1 == 0 && n.2.2.2 == 0)
def fair (n : Nm) : Nm := if may n then n else zN
def sgn (n : Nm) : Int := if (fair n).1 = 0 then 0 else if (fair n).2.1 then -1 else 1
def tri (n : Nm) : Int × Int × Int := if n.2.1 then (-n.1, -n.2.2.2, -n.2.2.1) else (n.1, n.2.2.2, n.2.2.1)
def tlt (a b : Int × Int × Int) : Prop := a.1 < b.1 \/ a.1 = b.1 /\ (a.2.1 < b.2.1 \/ a.2.1 = b.2.1 /\ a.2.2 < b.2.2)
instance (a b : Int × Int × Int) : Decidable (tlt a b) := by unfold tlt; exact inferInstance
abbrev nlt (a b : Nm) : Prop := tlt (tri (fair a)) (tri (fair b))
def cmp (a b : Nm) : Int := if nlt a b then -1 else if nlt b a then 1 else 0
theorem wrap_small {x : Int} (h : -9223372036854775808 <= x) (h' : x <= 9223372036854775807) : IntKind.i64.wrap x = x := by
 simp only [IntKind.wrap, IntKind.bits, IntKind.signed]
 simp
 omega
theorem may_zN : may zN = true := by decide
theorem may_inf (b : Bool) : may (inf b) = true := by cases b <;> decide
theorem may_fair (n : Nm) : may (fair n) = true := by
 unfold fair
 split
 ·assumption
 ·exact may_zN
theorem fair_fair (n : Nm) : fair (fair n) = fair n := by
 rw [fair, if_pos (may_fair n)]
theorem fair_may {n : Nm} (h : may n = true) : fair n = n := by rw [fair, if_pos h]
theorem may_cases {n : Nm} (h : may n = true) : n = zN \/ (n.1 = 1 /\ 9223372036854775808 <= n.2.2.1 /\ -1048576 <= n.2.2.2 /\ n.2.2.2 <= 1048576) \/ (n.1 = 2 /\ n.2.2.1 = 0 /\ n.2.2.2 = 0) := by
 simp only [may, Bool.or_eq_true, Bool.and_eq_true, decide_eq_true_eq, beq_iff_eq] at h
 grind
theorem num_May_eq (k : Nat) (n : Nm) : num_May k n = some (may n, ()) := by
 obtain ⟨a, b, c, d⟩ := n
 simp only [num_May, beqN, may, cond_eq_ite, beq_iff_eq]
 repeat' split
 all_goals (first | omega | simp_all <;> omega)
theorem num_fair_eq (k : Nat) (n : Nm) : num_fair k n = some (fair n, ()) := by
 simp only [num_fair, num_May_eq, Option.bind_some, fair]
 cases may n <;> rfl
theorem num_Sign_eq (k : Nat) (n : Nm) : num_Sign k n = some (sgn n, ()) := by
 simp only [num_Sign, num_fair_eq, Option.bind_some, sgn, cond_eq_ite, beq_iff_eq]
 grind
theorem num_Cmp_eq (k : Nat) (a b : Nm) : num_Cmp k a b = some (cmp a b, ()) := by
 simp only [num_Cmp, num_fair_eq, Option.bind_some, num_Sign_eq, num_farther, sgn, fair_fair, cmp, nlt]
 have ha := may_cases (may_fair a)
 have hb := may_cases (may_fair b)
 generalize fair a = x at *
 generalize fair b = y at *
 obtain ⟨a, b, c, d⟩ := x; obtain ⟨a', b', c', d'⟩ := y
 have w1 : IntKind.i64.wrap (0 - 1) = -1 := by decide
 have w2 : IntKind.i64.wrap (0 - (-1)) = 1 := by decide
 have w3 : IntKind.i64.wrap 0 = 0 := by decide
 simp only [Prod.mk.injEq] at ha hb
 simp only [cond_eq_ite, bne_iff_ne, ne_eq, decide_eq_true_eq, tlt, tri]
 cases b <;> cases b' <;> simp at ha hb ⊢ <;> grind
theorem cmp_fair_l (a b : Nm) : cmp (fair a) b = cmp a b := by simp only [cmp, nlt, fair_fair]
theorem cmp_fair_r (a b : Nm) : cmp a (fair b) = cmp a b := by simp only [cmp, nlt, fair_fair]
theorem tri_inj {a b : Nm} (ha : may a = true) (hb : may b = true) (h : tri a = tri b) : a = b := by
 have ha := may_cases ha
 have hb := may_cases hb
 obtain ⟨x1, x2, x3, x4⟩ := a; obtain ⟨y1, y2, y3, y4⟩ := b
 simp only [tri, Prod.mk.injEq] at *
 cases x2 <;> cases y2 <;> simp at ha hb h ⊢ <;> grind
theorem cmp_zero {a b : Nm} : cmp a b = 0 ↔ fair a = fair b := by
 refine ⟨fun h => tri_inj (may_fair a) (may_fair b) ?_, fun h => ?_⟩
 ·simp only [cmp, nlt, tlt] at h
  generalize tri (fair a) = x at *
  generalize tri (fair b) = y at *
  obtain ⟨x1, x2, x3⟩ := x; obtain ⟨y1, y2, y3⟩ := y
  simp only [Prod.mk.injEq] at h ⊢
  grind
 ·simp only [cmp, nlt, h, tlt]
  simp
theorem cmp_self (a : Nm) : cmp a a = 0 := cmp_zero.2 rfl
theorem cmp_swap (a b : Nm) : cmp b a = - cmp a b := by
 simp only [cmp, nlt, tlt]
 generalize tri (fair a) = x
 generalize tri (fair b) = y
 obtain ⟨x1, x2, x3⟩ := x; obtain ⟨y1, y2, y3⟩ := y
 dsimp only
 repeat' split
 all_goals omega
theorem cmp_le {a b : Nm} : cmp a b <= 0 ↔ ¬ tlt (tri (fair b)) (tri (fair a)) := by
 simp only [cmp, nlt, tlt]
 generalize tri (fair a) = x
 generalize tri (fair b) = y
 obtain ⟨x1, x2, x3⟩ := x; obtain ⟨y1, y2, y3⟩ := y
 dsimp only
 repeat' split
 all_goals omega
theorem cmp_lt {a b : Nm} : cmp a b < 0 ↔ tlt (tri (fair a)) (tri (fair b)) := by
 simp only [cmp, nlt, tlt]
 generalize tri (fair a) = x
 generalize tri (fair b) = y
 obtain ⟨x1, x2, x3⟩ := x; obtain ⟨y1, y2, y3⟩ := y
 dsimp only
 repeat' split
 all_goals omega
theorem cmp_le_trans {a b c : Nm} (h1 : cmp a b <= 0) (h2 : cmp b c <= 0) : cmp a c <= 0 := by
 rw [cmp_le] at *
 simp only [tlt] at *
 omega
theorem cmp_pos {a b : Nm} : cmp a b > 0 ↔ cmp b a < 0 := by have := cmp_swap a b; omega
theorem cmp_anti {a b : Nm} (h1 : cmp a b <= 0) (h2 : cmp b a <= 0) : fair a = fair b := cmp_zero.1 (by have := cmp_swap a b; omega)
abbrev noneI : Iv := (true, zN, zN)
abbrev allI : Iv := (false, inf true, inf false)
def mayI (x : Iv) : Bool := if x.1 then decide (x = noneI) else may x.2.1 && may x.2.2 && decide (cmp x.2.1 x.2.2 <= 0) && !decide (x.2.1 = inf false) && !decide (x.2.2 = inf true)
def fairI (x : Iv) : Iv := if mayI x then x else noneI
def neg (n : Nm) : Nm := ((fair n).1, (if (fair n).1 = 0 then false else !(fair n).2.1), (fair n).2.2)
def mkI (lo hi : Nm) : Iv := fairI (false, fair lo, fair hi)
def within (a b : Iv) : Bool := (fairI a).1 || (!(fairI b).1 && decide (cmp (fairI b).2.1 (fairI a).2.1 <= 0) && decide (cmp (fairI a).2.2 (fairI b).2.2 <= 0))
def has (x : Iv) (n : Nm) : Bool := !(mkI n n).1 && within (mkI n n) x
def most (l : List Nm) : Nm := l.foldl (fun a n => if cmp n a > 0 then fair n else a) (inf true)
def least (l : List Nm) : Nm := l.foldl (fun a n => if cmp n a < 0 then fair n else a) (inf false)
def losOf (l : List Iv) : List Nm := (l.filter (fun x => !(fairI x).1)).map (fun x => (fairI x).2.1)
def hisOf (l : List Iv) : List Nm := (l.filter (fun x => !(fairI x).1)).map (fun x => (fairI x).2.2)
def meet (l : List Iv) : Iv := if l.all (fun x => !(fairI x).1) then mkI (most (losOf l)) (least (hisOf l)) else noneI
def hull (l : List Iv) : Iv := if losOf l = [] then noneI else mkI (least (losOf l)) (most (hisOf l))
def two (a b : Iv) : Iv := if (fairI a).1 || (fairI b).1 then noneI else mkI (most [(fairI a).2.1, (fairI b).2.1]) (least [(fairI a).2.2, (fairI b).2.2])
theorem iv_None_eq (k : Nat) : iv_None k = some (noneI, ()) := rfl
theorem iv_All_eq (k : Nat) : iv_All k = some (allI, ()) := rfl
theorem num_Inf_eq (k : Nat) (b : Bool) : num_Infinite k b = some (inf b, ()) := rfl
theorem iv_May_eq (k : Nat) (x : Iv) : iv_May k x = some (mayI x, ()) := by
 simp only [iv_May, iv_None_eq, num_May_eq, num_Cmp_eq, num_Inf_eq, Option.bind_some, beqI, beqN, mayI]
 obtain ⟨e, lo, hi⟩ := x
 cases e
 ·by_cases hc : cmp lo hi <= 0
  ·cases may lo <;> cases may hi <;> simp [cond_eq_ite, hc]
   split <;> simp_all
  ·cases may lo <;> cases may hi <;> simp [cond_eq_ite, hc]
 ·simp
theorem iv_fair_eq (k : Nat) (x : Iv) : iv_fair k x = some (fairI x, ()) := by
 simp only [iv_fair, iv_May_eq, iv_None_eq, Option.bind_some, fairI]
 cases mayI x <;> rfl
theorem num_Neg_eq (k : Nat) (n : Nm) : num_Neg k n = some (neg n, ()) := by
 simp only [num_Neg, num_fair_eq, Option.bind_some, neg, cond_eq_ite, bne_iff_ne]
 split <;> simp_all
theorem may_neg (n : Nm) : may (neg n) = true := by
 have h := may_cases (may_fair n)
 unfold neg
 generalize fair n = x at *
 obtain ⟨a, b, c, d⟩ := x
 simp only [may, Prod.mk.injEq] at *
 cases b <;> simp at h ⊢ <;> grind
theorem neg_neg (n : Nm) : neg (neg n) = fair n := by
 have h := may_neg n
 rw [neg, fair_may h]
 unfold neg
 have h := may_cases (may_fair n)
 generalize fair n = x at *
 obtain ⟨a, b, c, d⟩ := x
 simp only [Prod.mk.injEq] at *
 cases b <;> simp at h ⊢ <;> grind
theorem iv_Make_eq (k : Nat) (a b : Nm) : iv_Make k a b = some (mkI a b, ()) := by
 simp only [iv_Make, num_Neg_eq, iv_fair_eq, Option.bind_some, neg_neg, mkI]
theorem at_mid {α : Type} (pre : List α) (x : α) (suf : List α) : (pre ++ x :: suf)[Int.toNat (pre.length : Int)]? = some x := by simp
theorem wrap_succ {n : Nat} (h : n <= 1000000000) : IntKind.i64.wrap ((n : Int) + 1) = ((n + 1 : Nat) : Int) := by
 rw [wrap_small (by omega) (by omega)]; rfl
theorem most_loop (k : Nat) : ∀ (s pre : List Nm) (m : Nat) (z a : Nm), s.length < m -> pre.length + s.length <= 1000000 ->
  num_Most_l0 k m (((), (), pre ++ s, ((pre ++ s).length : Int), (pre.length : Int), ()), (z, a, ())) = some (Sum.inl (((), (), ()), (z, s.foldl (fun a n => if cmp n a > 0 then fair n else a) a, ())))
 | [], pre, m + 1, z, a, hm, hl => by simp [num_Most_l0]
 | x :: s, pre, m + 1, z, a, hm, hl => by
  simp only [List.length_cons] at hm hl
  have ih := fun b => most_loop k s (pre ++ [x]) m z b (by omega) (by simp; omega)
  have hlt : (pre.length : Int) < ((pre ++ x :: s).length : Int) := by simp; omega
  simp only [num_Most_l0, decide_eq_true hlt, cond_true, if_pos (Int.natCast_nonneg pre.length), at_mid, Option.bind_some, num_Cmp_eq, num_fair_eq, wrap_succ (show pre.length <= 1000000000 by omega)]
  simp only [List.append_assoc, List.singleton_append, List.length_append, List.length_cons, List.length_nil, Nat.zero_add] at ih ⊢
  rw [List.foldl_cons]
  by_cases hc : cmp x a > 0
  ·simp only [hc, decide_true, cond_true, if_true]; exact ih _
  ·simp only [hc, decide_false, cond_false, if_false]; exact ih _
theorem num_Most_eq (k : Nat) (l : List Nm) (h : l.length < k) (h' : l.length <= 1000000) : num_Most k l = some (most l, ()) := by
 have := most_loop k l [] k zN (inf true) h (by simpa using h')
 simp only [List.nil_append, List.length_nil] at this
 simp only [num_Most, num_Inf_eq, Option.bind_some]
 rw [show ((0 : Nat) : Int) = 0 from rfl] at this
 rw [this]
 rfl
theorem least_loop (k : Nat) : ∀ (s pre : List Nm) (m : Nat) (z a : Nm), s.length < m -> pre.length + s.length <= 1000000 ->
  num_Least_l0 k m (((), (), pre ++ s, ((pre ++ s).length : Int), (pre.length : Int), ()), (z, a, ())) = some (Sum.inl (((), (), ()), (z, s.foldl (fun a n => if cmp n a < 0 then fair n else a) a, ())))
 | [], pre, m + 1, z, a, hm, hl => by simp [num_Least_l0]
 | x :: s, pre, m + 1, z, a, hm, hl => by
  simp only [List.length_cons] at hm hl
  have ih := fun b => least_loop k s (pre ++ [x]) m z b (by omega) (by simp; omega)
  have hlt : (pre.length : Int) < ((pre ++ x :: s).length : Int) := by simp; omega
  simp only [num_Least_l0, decide_eq_true hlt, cond_true, if_pos (Int.natCast_nonneg pre.length), at_mid, Option.bind_some, num_Cmp_eq, num_fair_eq, wrap_succ (show pre.length <= 1000000000 by omega)]
  simp only [List.append_assoc, List.singleton_append, List.length_append, List.length_cons, List.length_nil, Nat.zero_add] at ih ⊢
  rw [List.foldl_cons]
  by_cases hc : cmp x a < 0
  ·simp only [hc, decide_true, cond_true, if_true]; exact ih _
  ·simp only [hc, decide_false, cond_false, if_false]; exact ih _
theorem num_Least_eq (k : Nat) (l : List Nm) (h : l.length < k) (h' : l.length <= 1000000) : num_Least k l = some (least l, ()) := by
 have := least_loop k l [] k zN (inf false) h (by simpa using h')
 simp only [List.nil_append, List.length_nil] at this
 simp only [num_Least, num_Inf_eq, Option.bind_some]
 rw [show ((0 : Nat) : Int) = 0 from rfl] at this
 rw [this]
 rfl
theorem losOf_cons (x : Iv) (s : List Iv) : losOf (x :: s) = if (fairI x).1 then losOf s else (fairI x).2.1 :: losOf s := by
 simp only [losOf, List.filter_cons]
 cases (fairI x).1 <;> simp
theorem hisOf_cons (x : Iv) (s : List Iv) : hisOf (x :: s) = if (fairI x).1 then hisOf s else (fairI x).2.2 :: hisOf s := by
 simp only [hisOf, List.filter_cons]
 cases (fairI x).1 <;> simp
theorem losOf_le (s : List Iv) : (losOf s).length <= s.length := by simp only [losOf, List.length_map]; exact List.length_filter_le _ _
theorem hisOf_le (s : List Iv) : (hisOf s).length <= s.length := by simp only [hisOf, List.length_map]; exact List.length_filter_le _ _
theorem ends_loop (k : Nat) : ∀ (s pre : List Iv) (m : Nat) (al : Bool) (lo hi : List Nm), s.length < m -> pre.length + s.length <= 1000000 -> lo.length <= pre.length -> hi.length <= pre.length ->
  iv_ends_l0 k m (((), (), al, pre ++ s, ((pre ++ s).length : Int), (pre.length : Int), ()), (lo, hi, ())) = some (Sum.inl (((), (), al && s.all (fun x => !(fairI x).1), ()), (lo ++ losOf s, hi ++ hisOf s, ())))
 | [], pre, m + 1, al, lo, hi, hm, hl, h1, h2 => by simp [iv_ends_l0, losOf, hisOf]
 | x :: s, pre, m + 1, al, lo, hi, hm, hl, h1, h2 => by
  simp only [List.length_cons] at hm hl
  have ih := fun al lo hi h1 h2 => ends_loop k s (pre ++ [x]) m al lo hi (by omega) (by simp; omega) h1 h2
  have hlt : (pre.length : Int) < ((pre ++ x :: s).length : Int) := by simp; omega
  have g1 : (lo.length + [(fairI x).2.1].length) * 32 <= 140737488355328 := by simp; omega
  have g2 : (hi.length + [(fairI x).2.2].length) * 32 <= 140737488355328 := by simp; omega
  simp only [iv_ends_l0, decide_eq_true hlt, cond_true, if_pos (Int.natCast_nonneg pre.length), at_mid, Option.bind_some, iv_fair_eq, wrap_succ (show pre.length <= 1000000000 by omega), if_pos g1, if_pos g2]
  simp only [List.append_assoc, List.singleton_append, List.length_append, List.length_cons, List.length_nil, Nat.zero_add] at ih ⊢
  cases hc : (fairI x).1
  ·have := ih al (lo ++ [(fairI x).2.1]) (hi ++ [(fairI x).2.2]) (by simp; omega) (by simp; omega)
   simp only [cond_false, losOf_cons, hisOf_cons, hc, List.all_cons, Bool.not_false, Bool.true_and]
   simpa using this
  ·have := ih false lo hi (by omega) (by omega)
   simp only [cond_true, losOf_cons, hisOf_cons, hc, List.all_cons, Bool.not_true, Bool.false_and, Bool.and_false, if_true]
   simpa using this
theorem iv_ends_eq (k : Nat) (l : List Iv) (h : l.length < k) (h' : l.length <= 1000000) : iv_ends k l = some (losOf l, hisOf l, l.all (fun x => !(fairI x).1), ()) := by
 have := ends_loop k l [] k true [] [] h (by simpa using h') (by simp) (by simp)
 simp only [List.nil_append, List.length_nil, Bool.true_and] at this
 simp only [iv_ends]
 rw [show ((0 : Nat) : Int) = 0 from rfl] at this
 rw [this]
 rfl
theorem iv_Meet_eq (k : Nat) (l : List Iv) (h : l.length < k) (h' : l.length <= 1000000) : iv_Meet k l = some (meet l, ()) := by
 have h1 := losOf_le l
 have h2 := hisOf_le l
 simp only [iv_Meet, iv_ends_eq k l h h', Option.bind_some, iv_None_eq, num_Most_eq k (losOf l) (by omega) (by omega), num_Least_eq k (hisOf l) (by omega) (by omega), iv_Make_eq, meet]
 cases l.all (fun x => !(fairI x).1) <;> rfl
theorem iv_Hull_eq (k : Nat) (l : List Iv) (h : l.length < k) (h' : l.length <= 1000000) : iv_Hull k l = some (hull l, ()) := by
 have h1 := losOf_le l
 have h2 := hisOf_le l
 simp only [iv_Hull, iv_ends_eq k l h h', Option.bind_some, iv_None_eq, num_Most_eq k (hisOf l) (by omega) (by omega), num_Least_eq k (losOf l) (by omega) (by omega), iv_Make_eq, hull]
 by_cases hc : losOf l = []
 ·simp [hc]
 ·simp [hc, cond_eq_ite]
theorem meet_two (a b : Iv) : meet [a, b] = two a b := by
 simp only [meet, two, List.all_cons, List.all_nil, losOf_cons, hisOf_cons]
 cases (fairI a).1 <;> cases (fairI b).1 <;> simp [losOf, hisOf]
theorem iv_Meet2 (k : Nat) (a b : Iv) (h : 3 <= k) : iv_Meet k [a, b] = some (two a b, ()) := by
 rw [iv_Meet_eq k _ (by simp; omega) (by simp), meet_two]
theorem fair_inf {n : Nm} (h : (fair n).1 = 2) : fair n = inf (fair n).2.1 := by
 have := may_cases (may_fair n)
 generalize fair n = x at *
 obtain ⟨x1, x2, x3, x4⟩ := x
 simp only [Prod.mk.injEq] at this h ⊢
 grind
theorem mayI_iff {lo hi : Nm} : mayI (false, lo, hi) = true ↔ may lo = true /\ may hi = true /\ cmp lo hi <= 0 /\ lo ≠ inf false /\ hi ≠ inf true := by
 simp [mayI]
 grind
theorem mayI_noneI : mayI noneI = true := by decide
theorem mayI_fairI (x : Iv) : mayI (fairI x) = true := by
 unfold fairI
 split
 ·assumption
 ·exact mayI_noneI
theorem fairI_may {x : Iv} (h : mayI x = true) : fairI x = x := if_pos h
theorem mayI_none {x : Iv} (h : mayI x = true) (h1 : x.1 = true) : x = noneI := by
 simp only [mayI, h1, if_true, decide_eq_true_eq] at h
 exact h
theorem mayI_full {x : Iv} (h : mayI x = true) (h1 : x.1 = false) : x = (false, x.2.1, x.2.2) /\ may x.2.1 = true /\ may x.2.2 = true /\ cmp x.2.1 x.2.2 <= 0 /\ x.2.1 ≠ inf false /\ x.2.2 ≠ inf true := by
 obtain ⟨e, lo, hi⟩ := x
 simp only at h1
 subst h1
 exact ⟨rfl, mayI_iff.1 h⟩
theorem mkI_may {lo hi : Nm} (h1 : cmp lo hi <= 0) (h2 : fair lo ≠ inf false) (h3 : fair hi ≠ inf true) : mkI lo hi = (false, fair lo, fair hi) := by
 unfold mkI
 rw [fairI_may]
 rw [mayI_iff]
 exact ⟨may_fair _, may_fair _, by rw [cmp_fair_l, cmp_fair_r]; exact h1, h2, h3⟩
theorem mayI_mkI (lo hi : Nm) : mayI (mkI lo hi) = true := mayI_fairI _
theorem mkI_cases (lo hi : Nm) : mkI lo hi = noneI \/ (mkI lo hi = (false, fair lo, fair hi) /\ cmp lo hi <= 0 /\ fair lo ≠ inf false /\ fair hi ≠ inf true) := by
 unfold mkI fairI
 split
 ·rename_i h
  rw [mayI_iff, cmp_fair_l, cmp_fair_r] at h
  exact .inr ⟨rfl, h.2.2⟩
 ·exact .inl rfl
theorem mkI_point (n : Nm) : mkI n n = if (fair n).1 = 2 then noneI else (false, fair n, fair n) := by
 split
 ·rename_i h
  have := fair_inf h
  rcases mkI_cases n n with e | ⟨_, _, h2, h3⟩
  ·exact e
  ·cases hb : (fair n).2.1 <;> rw [hb] at this
   ·exact absurd this h2
   ·exact absurd this h3
 ·rename_i h
  exact mkI_may (by rw [cmp_self]; decide) (fun e => h (by rw [e])) (fun e => h (by rw [e]))
theorem cmp_inf (n : Nm) : cmp n (inf false) <= 0 := by
 rw [cmp_le]
 have h := may_cases (may_fair n)
 rw [fair_may (may_inf false)]
 generalize fair n = x at *
 obtain ⟨x1, x2, x3, x4⟩ := x
 simp only [tri, tlt, Prod.mk.injEq] at *
 cases x2 <;> simp at h ⊢ <;> grind
theorem cmp_inf' (n : Nm) : cmp (inf true) n <= 0 := by
 rw [cmp_le]
 have h := may_cases (may_fair n)
 rw [fair_may (may_inf true)]
 generalize fair n = x at *
 obtain ⟨x1, x2, x3, x4⟩ := x
 simp only [tri, tlt, Prod.mk.injEq] at *
 cases x2 <;> simp at h ⊢ <;> grind
theorem least_fold (l : List Nm) : ∀ a, may a = true -> (may (l.foldl (fun a n => if cmp n a < 0 then fair n else a) a) = true /\ cmp (l.foldl (fun a n => if cmp n a < 0 then fair n else a) a) a <= 0 /\
  (∀ n ∈ l, cmp (l.foldl (fun a n => if cmp n a < 0 then fair n else a) a) n <= 0) /\ (l.foldl (fun a n => if cmp n a < 0 then fair n else a) a = a \/ ∃ n ∈ l, l.foldl (fun a n => if cmp n a < 0 then fair n else a) a = fair n)) := by
 induction l with
 | nil => intro a h; simp [h, cmp_self]
 | cons x l ih =>
  intro a h
  rw [List.foldl_cons]
  by_cases hc : cmp x a < 0
  ·rw [if_pos hc]
   obtain ⟨h1, h2, h3, h4⟩ := ih (fair x) (may_fair x)
   rw [cmp_fair_r] at h2
   refine ⟨h1, cmp_le_trans h2 (by omega), fun n hn => ?_, ?_⟩
   ·rcases List.mem_cons.1 hn with e | hn
    ·subst e; exact h2
    ·exact h3 n hn
   ·rcases h4 with h4 | ⟨n, hn, h4⟩
    ·exact .inr ⟨x, List.mem_cons_self, h4⟩
    ·exact .inr ⟨n, List.mem_cons_of_mem _ hn, h4⟩
  ·rw [if_neg hc]
   obtain ⟨h1, h2, h3, h4⟩ := ih a h
   refine ⟨h1, h2, fun n hn => ?_, ?_⟩
   ·rcases List.mem_cons.1 hn with e | hn
    ·subst e; exact cmp_le_trans h2 (by have := cmp_swap n a; omega)
    ·exact h3 n hn
   ·rcases h4 with h4 | ⟨n, hn, h4⟩
    ·exact .inl h4
    ·exact .inr ⟨n, List.mem_cons_of_mem _ hn, h4⟩
theorem most_fold (l : List Nm) : ∀ a, may a = true -> (may (l.foldl (fun a n => if cmp n a > 0 then fair n else a) a) = true /\ cmp a (l.foldl (fun a n => if cmp n a > 0 then fair n else a) a) <= 0 /\
  (∀ n ∈ l, cmp n (l.foldl (fun a n => if cmp n a > 0 then fair n else a) a) <= 0) /\ (l.foldl (fun a n => if cmp n a > 0 then fair n else a) a = a \/ ∃ n ∈ l, l.foldl (fun a n => if cmp n a > 0 then fair n else a) a = fair n)) := by
 induction l with
 | nil => intro a h; simp [h, cmp_self]
 | cons x l ih =>
  intro a h
  rw [List.foldl_cons]
  by_cases hc : cmp x a > 0
  ·rw [if_pos hc]
   obtain ⟨h1, h2, h3, h4⟩ := ih (fair x) (may_fair x)
   rw [cmp_fair_l] at h2
   refine ⟨h1, cmp_le_trans (b := x) (by have := cmp_swap x a; omega) h2, fun n hn => ?_, ?_⟩
   ·rcases List.mem_cons.1 hn with e | hn
    ·subst e; exact h2
    ·exact h3 n hn
   ·rcases h4 with h4 | ⟨n, hn, h4⟩
    ·exact .inr ⟨x, List.mem_cons_self, h4⟩
    ·exact .inr ⟨n, List.mem_cons_of_mem _ hn, h4⟩
  ·rw [if_neg hc]
   obtain ⟨h1, h2, h3, h4⟩ := ih a h
   refine ⟨h1, h2, fun n hn => ?_, ?_⟩
   ·rcases List.mem_cons.1 hn with e | hn
    ·subst e; exact cmp_le_trans (by omega) h2
    ·exact h3 n hn
   ·rcases h4 with h4 | ⟨n, hn, h4⟩
    ·exact .inl h4
    ·exact .inr ⟨n, List.mem_cons_of_mem _ hn, h4⟩
theorem least_may (l : List Nm) : may (least l) = true := (least_fold l _ (may_inf false)).1
theorem most_may (l : List Nm) : may (most l) = true := (most_fold l _ (may_inf true)).1
theorem least_le {l : List Nm} {n : Nm} (h : n ∈ l) : cmp (least l) n <= 0 := (least_fold l _ (may_inf false)).2.2.1 n h
theorem most_ge {l : List Nm} {n : Nm} (h : n ∈ l) : cmp n (most l) <= 0 := (most_fold l _ (may_inf true)).2.2.1 n h
theorem least_mem (l : List Nm) : least l = inf false \/ ∃ n ∈ l, least l = fair n := (least_fold l _ (may_inf false)).2.2.2
theorem most_mem (l : List Nm) : most l = inf true \/ ∃ n ∈ l, most l = fair n := (most_fold l _ (may_inf true)).2.2.2
theorem le_least {l : List Nm} {x : Nm} (h : ∀ n ∈ l, cmp x n <= 0) : cmp x (least l) <= 0 := by
 rcases least_mem l with e | ⟨n, hn, e⟩
 ·rw [e]; exact cmp_inf x
 ·rw [e, cmp_fair_r]; exact h n hn
theorem most_le {l : List Nm} {x : Nm} (h : ∀ n ∈ l, cmp n x <= 0) : cmp (most l) x <= 0 := by
 rcases most_mem l with e | ⟨n, hn, e⟩
 ·rw [e]; exact cmp_inf' x
 ·rw [e, cmp_fair_l]; exact h n hn
theorem mem_losOf {l : List Iv} {n : Nm} : n ∈ losOf l ↔ ∃ x ∈ l, (fairI x).1 = false /\ (fairI x).2.1 = n := by simp [losOf, and_assoc]
theorem mem_hisOf {l : List Iv} {n : Nm} : n ∈ hisOf l ↔ ∃ x ∈ l, (fairI x).1 = false /\ (fairI x).2.2 = n := by simp [hisOf, and_assoc]
theorem fair_low {x : Iv} (h : (fairI x).1 = false) : may (fairI x).2.1 = true /\ may (fairI x).2.2 = true /\ cmp (fairI x).2.1 (fairI x).2.2 <= 0 /\ (fairI x).2.1 ≠ inf false /\ (fairI x).2.2 ≠ inf true /\ fairI x = (false, (fairI x).2.1, (fairI x).2.2) :=
 let ⟨a, b⟩ := mayI_full (mayI_fairI x) h
 ⟨b.1, b.2.1, b.2.2.1, b.2.2.2.1, b.2.2.2.2, a⟩
theorem ne_inf_of_le {a b : Nm} (ha : may a = true) (hb : may b = true) (h : cmp a b <= 0) (h1 : b ≠ inf false) : a ≠ inf false := by
 rintro rfl
 have := cmp_anti h (cmp_inf b)
 rw [fair_may ha, fair_may hb] at this
 exact h1 this.symm
theorem ne_inf_of_ge {a b : Nm} (ha : may a = true) (hb : may b = true) (h : cmp a b <= 0) (h1 : a ≠ inf true) : b ≠ inf true := by
 rintro rfl
 have := cmp_anti h (cmp_inf' a)
 rw [fair_may ha, fair_may hb] at this
 exact h1 this
theorem wrap_pred {n : Nat} (h : n <= 1000000000) : IntKind.i64.wrap (((n + 1 : Nat) : Int) - 1) = (n : Int) := by
 rw [wrap_small (by omega) (by omega)]; omega
theorem cond_t {α : Type} {p : Prop} [Decidable p] (h : p) (a b : α) : cond (decide p) a b = a := by rw [decide_eq_true h]; rfl
theorem cond_f {α : Type} {p : Prop} [Decidable p] (h : ¬ p) (a b : α) : cond (decide p) a b = b := by rw [decide_eq_false h]; rfl
theorem beq_t {a b : Int} (h : a = b) : (a == b) = true := by simpa using h
theorem beq_f {a b : Int} (h : ¬ a = b) : (a == b) = false := by simpa using h
theorem len_lt {α : Type} (pre : List α) (x : α) (suf : List α) : (pre.length : Int) < ((pre ++ x :: suf).length : Int) := by simp; omega
theorem len_ge {α : Type} (pre : List α) : ¬ (pre.length : Int) < ((pre ++ []).length : Int) := by simp
theorem mid_eq {α : Type} (pre : List α) (x : α) (suf : List α) : (pre ++ [x]) ++ suf = pre ++ x :: suf := by simp
theorem len_snoc {α : Type} (pre : List α) (x : α) : (pre ++ [x]).length = pre.length + 1 := by simp
def finite (n : Nm) : Bool := may n && n.1 != 2
def okS : Nm -> List Sl -> Bool
 | _, [] => true
 | last, s :: r => finite s.1 && decide (cmp s.1 last > 0) && mayI s.2.1 && mayI s.2.2 && okS s.1 r
def mayT (t : Tb) : Bool := finite t.1 && mayI t.2.1 && decide (t.2.2.length <= 64) && okS t.1 t.2.2
def emptyT (t : Tb) : Bool := t.2.1.1 || t.2.2.any (fun s => s.2.1.1 || s.2.2.1)
theorem tube_finite_eq (k : Nat) (n : Nm) : tube_finite k n = some (finite n, ()) := by
 simp only [tube_finite, num_May_eq, Option.bind_some, finite]
 cases may n <;> rfl
theorem may_loop (k : Nat) : ∀ (s pre : List Sl) (m : Nat) (last : Nm), s.length < m -> pre.length + s.length <= 1000000 ->
  tube_May_l0 k m (((), pre ++ s, ((pre ++ s).length : Int), (pre.length : Int), ()), (last, ())) = some (bif okS last s then Sum.inr (Sum.inl ((), ())) else Sum.inl ((false, ()), ()))
 | [], pre, m + 1, last, hm, hl => by simp [tube_May_l0, okS]
 | x :: s, pre, m + 1, last, hm, hl => by
  simp only [List.length_cons] at hm hl
  have ih := may_loop k s (pre ++ [x]) m x.1 (by omega) (by simp; omega)
  simp only [tube_May_l0, cond_t (len_lt pre x s), if_pos (Int.natCast_nonneg pre.length), at_mid, Option.bind_some, tube_finite_eq, num_Cmp_eq, iv_May_eq, wrap_succ (show pre.length <= 1000000000 by omega)]
  rw [mid_eq, len_snoc] at ih
  rw [ih]
  simp only [okS]
  by_cases hc : cmp x.1 last <= 0
  ·have hc' : ¬ cmp x.1 last > 0 := by omega
   cases finite x.1 <;> simp [hc, hc']
  ·have hc' : cmp x.1 last > 0 := by omega
   cases finite x.1 <;> cases mayI x.2.1 <;> cases mayI x.2.2 <;> simp [hc, hc']
theorem tube_May_eq (k : Nat) (hk : 100 <= k) (t : Tb) : tube_May k t = some (mayT t, ()) := by
 simp only [tube_May, tube_finite_eq, iv_May_eq, Option.bind_some, mayT]
 by_cases hl : t.2.2.length <= 64
 ·have hl' : ¬ (t.2.2.length : Int) > 64 := by omega
  have h := may_loop k t.2.2 [] k t.1 (by omega) (by simp; omega)
  simp only [List.nil_append, List.length_nil] at h
  rw [show ((0 : Nat) : Int) = 0 from rfl] at h
  rw [cond_f hl', h]
  cases finite t.1 <;> cases mayI t.2.1 <;> cases okS t.1 t.2.2 <;> simp [hl]
 ·have hl' : (t.2.2.length : Int) > 64 := by omega
  rw [cond_t hl']
  cases finite t.1 <;> cases mayI t.2.1 <;> simp [hl]
theorem mayT_len {t : Tb} (h : mayT t = true) : t.2.2.length <= 64 := by
 simp only [mayT, Bool.and_eq_true, decide_eq_true_eq] at h; exact h.1.2
theorem empty_loop (k : Nat) : ∀ (s pre : List Sl) (m : Nat), s.length < m -> pre.length + s.length <= 1000000 -> ∃ i : Nat,
  tube_Empty_l0 k m ((false, pre ++ s, (), ((pre ++ s).length : Int), (pre.length : Int), ()), ()) = some (bif s.any (fun s => s.2.1.1 || s.2.2.1) then Sum.inl ((false, (i : Int), ()), ()) else Sum.inr (Sum.inl ((false, ()), ())))
 | [], pre, m + 1, hm, hl => ⟨0, by simp [tube_Empty_l0]⟩
 | x :: s, pre, m + 1, hm, hl => by
  simp only [List.length_cons] at hm hl
  obtain ⟨i, ih⟩ := empty_loop k s (pre ++ [x]) m (by omega) (by simp; omega)
  rw [mid_eq, len_snoc] at ih
  by_cases hx : (x.2.1.1 || x.2.2.1) = true
  ·refine ⟨pre.length, ?_⟩
   simp only [tube_Empty_l0, cond_t (len_lt pre x s), if_pos (Int.natCast_nonneg pre.length), at_mid, Option.bind_some, tube_Empty_1, List.any_cons, hx, Bool.true_or, cond_true]
   cases h1 : x.2.1.1
   ·rw [h1, Bool.false_or] at hx
    simp [hx]
   ·simp
  ·refine ⟨i, ?_⟩
   simp only [tube_Empty_l0, cond_t (len_lt pre x s), if_pos (Int.natCast_nonneg pre.length), at_mid, Option.bind_some, tube_Empty_1, List.any_cons, wrap_succ (show pre.length <= 1000000000 by omega)]
   rw [ih]
   simp only [Bool.or_eq_true, not_or, Bool.not_eq_true] at hx
   simp [hx.1, hx.2]
theorem tube_Empty_eq (k : Nat) (hk : 100 <= k) (t : Tb) : tube_Empty k t = some (!mayT t || emptyT t, ()) := by
 simp only [tube_Empty, tube_May_eq k hk, Option.bind_some]
 cases hm : mayT t
 ·simp
 ·have hl := mayT_len hm
  obtain ⟨i, h⟩ := empty_loop k t.2.2 [] k (by omega) (by simp; omega)
  simp only [List.nil_append, List.length_nil] at h
  rw [show ((0 : Nat) : Int) = 0 from rfl] at h
  simp only [Bool.not_true, cond_false]
  rw [h]
  simp only [emptyT]
  cases t.2.1.1
  ·cases t.2.2.any (fun s => s.2.1.1 || s.2.2.1) <;> simp
  ·simp
def wn (st : Nm) (pre : List Sl) : Nm := match pre.getLast? with | none => st | some p => p.1
theorem wn_nil (st : Nm) : wn st [] = st := rfl
theorem wn_snoc (st : Nm) (pre : List Sl) (p : Sl) : wn st (pre ++ [p]) = p.1 := by simp [wn]
def hd (g : Nm × Iv) (pre : List Sl) : Nm × Iv := match pre.getLast? with | none => g | some p => (p.1, two p.2.2 p.2.1)
def nx (x : Iv) : List Sl -> Iv
 | [] => x
 | s :: _ => two x s.2.1
def gatesL (h : Nm × Iv) : List Sl -> List (Nm × Iv)
 | [] => [(h.1, h.2)]
 | s :: r => (h.1, two h.2 s.2.1) :: gatesL (s.1, two s.2.2 s.2.1) r
@[simp] def tailG : List Sl -> List (Nm × Iv)
 | [] => []
 | s :: r => gatesL (s.1, two s.2.2 s.2.1) r
theorem tube_end_eq (k : Nat) (t : Tb) (h : t.2.2.length <= 1000000) : tube_end k t = some (wn t.1 t.2.2, ()) := by
 obtain ⟨st, inn, l⟩ := t
 simp only [tube_end]
 rcases List.eq_nil_or_concat l with rfl | ⟨pre, p, rfl⟩
 ·simp [wn]
 ·simp only [List.concat_eq_append] at h ⊢
  rw [wn_snoc, len_snoc]
  have h1 : ((pre.length + 1 : Nat) : Int) > 0 := by omega
  rw [len_snoc] at h
  simp only [cond_t h1, wrap_pred (show pre.length <= 1000000000 by omega), if_pos (Int.natCast_nonneg pre.length), at_mid, Option.bind_some]
def g2 (s : Sl) : Option Sl -> Iv
 | none => two s.2.2 s.2.1
 | some s' => two (two s.2.2 s.2.1) s'.2.1
def fitN : List Sl -> Option Sl -> List Sl
 | [], _ => []
 | [s], nx => [(s.1, s.2.1, g2 s nx)]
 | s :: s' :: r, nx => (s.1, s.2.1, g2 s (some s')) :: fitN (s' :: r) nx
theorem fitN_cons (s : Sl) (r : List Sl) (n : Option Sl) : fitN (s :: r) n = (s.1, s.2.1, g2 s (r.head?.or n)) :: fitN r n := by cases r <;> rfl
theorem fitN_snoc (pre : List Sl) (p : Sl) (n : Option Sl) : fitN (pre ++ [p]) n = fitN pre (some p) ++ [(p.1, p.2.1, g2 p n)] := by
 induction pre with
 | nil => rfl
 | cons s r ih => rw [List.cons_append, fitN_cons, ih, fitN_cons]; cases r <;> rfl
theorem fitN_len (l : List Sl) (n : Option Sl) : (fitN l n).length = l.length := by
 induction l with
 | nil => rfl
 | cons s r ih => rw [fitN_cons]; simp [ih]
def voidS (s : Sl) : Sl := (s.1, noneI, noneI)
def fitU (t : Tb) : Tb := (t.1, nx t.2.1 t.2.2, fitN t.2.2 none)
def fitT (t : Tb) : Tb := if mayT t then (if emptyT (fitU t) then (t.1, noneI, t.2.2.map voidS) else fitU t) else t
theorem mayI_two (a b : Iv) : mayI (two a b) = true := by
 unfold two
 split
 ·exact mayI_noneI
 ·exact mayI_mkI _ _
theorem mayI_g2 (s : Sl) (n : Option Sl) : mayI (g2 s n) = true := by cases n <;> exact mayI_two _ _
theorem mayI_nx {x : Iv} (h : mayI x = true) (l : List Sl) : mayI (nx x l) = true := by
 cases l
 ·exact h
 ·exact mayI_two _ _
theorem okS_fitN : ∀ (l : List Sl) (w : Nm) (n : Option Sl), okS w l = true -> okS w (fitN l n) = true
 | [], _, _, _ => rfl
 | s :: r, w, n, h => by
  rw [fitN_cons]
  simp only [okS, Bool.and_eq_true] at h ⊢
  exact ⟨⟨h.1.1, mayI_g2 _ _⟩, okS_fitN r s.1 n h.2⟩
theorem mayT_fitU {t : Tb} (h : mayT t = true) : mayT (fitU t) = true := by
 simp only [mayT, Bool.and_eq_true, decide_eq_true_eq] at h ⊢
 exact ⟨⟨⟨h.1.1.1, mayI_nx h.1.1.2 _⟩, by simp only [fitU, fitN_len]; exact h.1.2⟩, okS_fitN _ _ _ h.2⟩
theorem set_mid {α : Type} (a : List α) (x y : α) (b : List α) (n : Nat) (h : a.length = n) : (a ++ x :: b).set (Int.toNat (n : Int)) y = a ++ y :: b := by
 subst h; simp
theorem get_mid {α : Type} (a : List α) (x : α) (b : List α) (n : Nat) (h : a.length = n) : (a ++ x :: b)[Int.toNat (n : Int)]? = some x := by
 subst h; simp
theorem fit_loop (k : Nat) (hk : 3 <= k) (D : Nm × Iv × List Sl) (st : Nm) (inn : Iv) : ∀ (m : Nat) (s pre : List Sl) (g : Nm × Iv) (I : Nm × Iv × Unit) (A : List Sl), s.length + 1 < m -> pre.length + s.length <= 1000000 ->
  (A = match pre.getLast? with | none => s | some p => fitN pre.dropLast (some p) ++ p :: s) -> ∃ g',
  tube_Fit_l0 k m (((), (), (), (), (), (((pre ++ s).length + 1 : Nat) : Int), (pre.length : Int), ()), (D, I, A, g, (st, inn, pre ++ s), ())) =
   some (Sum.inl (((), (), ()), (D, ((I.1, (if pre = [] then nx g.2 s else I.2.1), ()), g', ())))) /\ g' = fitN (pre ++ s) none := by
 intro m
 induction m with
 | zero => intro s pre g I A hm; omega
 | succ m IH =>
  intro s pre g I A hm hl hA
  have hlt : (pre.length : Int) < (((pre ++ s).length + 1 : Nat) : Int) := by simp; omega
  have next : ∀ (g2' : Nm × Iv) (I2 : Nm × Iv × Unit) (A2 : List Sl), (s = [] -> A2 = fitN pre none) -> (∀ x r, s = x :: r -> A2 = fitN pre (some x) ++ x :: r) -> ∃ g', tube_Fit_l0 k m (((), (), (), (), (), (((pre ++ s).length + 1 : Nat) : Int), ((pre.length + 1 : Nat) : Int), ()), (D, I2, A2, g2', (st, inn, pre ++ s), ())) =
   some (Sum.inl (((), (), ()), (D, ((I2.1, I2.2.1, ()), g', ())))) /\ g' = fitN (pre ++ s) none := by
   intro g2' I2 A2 h1 h2
   cases s with
   | nil =>
    cases m with
    | zero => simp at hm
    | succ m =>
     have h3 : ¬ ((pre.length + 1 : Nat) : Int) < (((pre ++ []).length + 1 : Nat) : Int) := by simp
     refine ⟨A2, ?_, by simpa using h1 rfl⟩
     simp only [tube_Fit_l0]
     rw [cond_f h3]
   | cons y r =>
    simp only [List.length_cons] at hm hl
    obtain ⟨g', ih, e⟩ := IH r (pre ++ [y]) g2' I2 A2 (by omega) (by simp; omega) (by simpa using h2 y r rfl)
    rw [mid_eq, len_snoc] at ih
    rw [mid_eq] at e
    exact ⟨g', by rw [ih]; simp, e⟩
  simp only [tube_Fit_l0]
  rw [cond_t hlt, wrap_succ (show pre.length <= 1000000000 by omega)]
  rcases List.eq_nil_or_concat pre with rfl | ⟨pre, p, rfl⟩
  ·simp only [List.getLast?_nil] at hA
   subst hA
   have h0 : ¬ (([] : List Sl).length : Int) > 0 := by simp
   have h00 : ((([] : List Sl).length : Int) == 0) = true := rfl
   simp only [cond_f h0, h00, cond_true, if_true]
   cases A with
   | nil =>
    have h1 : ¬ (([] : List Sl).length : Int) < (([] ++ [] : List Sl).length : Int) := by simp
    simp only [cond_f h1, nx]
    exact next _ (I.1, g.2, ()) _ (fun _ => rfl) (fun _ _ h => by cases h)
   | cons y r =>
    have h1 : (([] : List Sl).length : Int) < (([] ++ y :: r : List Sl).length : Int) := by simp
    rw [cond_t h1, if_pos (Int.natCast_nonneg _), at_mid]
    simp only [Option.bind_some, nx, iv_Meet2 k _ _ hk]
    exact next _ (I.1, two g.2 y.2.1, ()) _ (fun h => by cases h) (fun x r h => by cases h; rfl)
  ·simp only [List.concat_eq_append] at *
   rw [len_snoc] at hl
   simp only [List.getLast?_append, List.getLast?_singleton, Option.some_or, List.dropLast_concat] at hA
   subst hA
   have h0 : (((pre ++ [p]).length : Nat) : Int) > 0 := by simp
   have h00 : (((pre ++ [p]).length : Int) == 0) = false := by rw [len_snoc]; exact beq_f (by omega)
   have hne : ¬ (pre ++ [p] = []) := by simp
   have e1 : IntKind.i64.wrap (((pre ++ [p]).length : Int) - 1) = (pre.length : Int) := by rw [len_snoc]; exact wrap_pred (by omega)
   have e2 : (pre ++ [p] ++ s)[Int.toNat (pre.length : Int)]? = some p := by rw [mid_eq]; exact at_mid _ _ _
   simp only [cond_t h0, h00, cond_false, e1, e2, if_pos (Int.natCast_nonneg pre.length), Option.bind_some, iv_Meet2 k _ _ hk, get_mid _ p s _ (fitN_len pre (some p)), set_mid _ p _ s _ (fitN_len pre (some p)), hne, if_false]
   cases s with
   | nil =>
    have h1 : ¬ ((pre ++ [p]).length : Int) < ((pre ++ [p] ++ [] : List Sl).length : Int) := by simp
    simp only [cond_f h1]
    exact next _ (I.1, I.2.1, ()) _ (fun _ => by rw [fitN_snoc]; rfl) (fun _ _ h => by cases h)
   | cons y r =>
    have h1 : ((pre ++ [p]).length : Int) < ((pre ++ [p] ++ y :: r : List Sl).length : Int) := by simp; omega
    simp only [cond_t h1, if_pos (Int.natCast_nonneg (pre ++ [p]).length), at_mid, Option.bind_some]
    exact next _ (I.1, I.2.1, ()) _ (fun h => by cases h) (fun x r h => by cases h; rw [fitN_snoc]; simp [g2])
theorem void_loop (k : Nat) (D : Nm × Iv × List Sl) (I : Nm × Iv × Unit) : ∀ (m : Nat) (s pre : List Sl), s.length < m -> pre.length + s.length <= 1000000 ->
  tube_void_l0 k m (((), (), (), (((pre ++ s).length : Nat) : Int), (pre.length : Int), ()), (I, D, noneI, pre.map voidS ++ s, ())) = some (Sum.inl (((), (), ()), (I, D, (pre ++ s).map voidS, ()))) := by
 intro m
 induction m with
 | zero => intro s pre hm; omega
 | succ m IH =>
  intro s pre hm hl
  cases s with
  | nil => simp [tube_void_l0]
  | cons y s =>
   simp only [List.length_cons] at hm hl
   have ih := IH s (pre ++ [y]) (by omega) (by simp; omega)
   simp only [mid_eq, len_snoc] at ih
   simp only [tube_void_l0, cond_t (len_lt pre y s), if_pos (Int.natCast_nonneg pre.length), Option.bind_some, get_mid _ _ s pre.length (show (pre.map voidS).length = pre.length by simp), set_mid _ _ _ s pre.length (show (pre.map voidS).length = pre.length by simp), wrap_succ (show pre.length <= 1000000000 by omega)]
   rw [show pre.map voidS ++ (y.1, noneI, noneI) :: s = (pre ++ [y]).map voidS ++ s by simp [voidS], ih]
theorem tube_void_eq (k : Nat) (t : Tb) (h : t.2.2.length < k) (hl : t.2.2.length <= 1000000) : tube_void k t = some ((t.1, noneI, t.2.2.map voidS), ()) := by
 obtain ⟨st, inn, l⟩ := t
 simp only at h hl
 have h1 := void_loop k (zN, (false, (0, false, 0, 0), 0, false, 0, 0), []) (st, noneI, ()) k l [] h (by simp; omega)
 simp only [List.nil_append, List.length_nil, List.map_nil] at h1
 rw [show ((0 : Nat) : Int) = 0 from rfl] at h1
 have g1 : l.length * 176 <= 140737488355328 := by omega
 simp only [tube_void, iv_None_eq, Option.bind_some, if_pos g1]
 rw [h1]
 rfl
theorem fitN_ends (l : List Sl) (n : Option Sl) : (fitN l n).map voidS = l.map voidS := by
 induction l with
 | nil => rfl
 | cons s r ih => rw [fitN_cons]; simp [ih, voidS]
theorem tube_Fit_eq (k : Nat) (hk : 200 <= k) (t : Tb) : tube_Fit k t = some (fitT t, ()) := by
 simp only [tube_Fit, tube_May_eq k (show 100 <= k by omega), Option.bind_some, fitT]
 cases hm : mayT t
 ·rfl
 ·have hl := mayT_len hm
  have hm' := mayT_fitU hm
  obtain ⟨st, inn, l⟩ := t
  simp only at hl
  have g1 : l.length * 176 <= 140737488355328 := by omega
  obtain ⟨g', h1, rfl⟩ := fit_loop k (by omega) ((0, false, 0, 0), ((false, (0, false, 0, 0), 0, false, 0, 0), [])) st inn k l [] (st, inn) (st, (inn, ())) l (by omega) (by simp; omega) rfl
  simp only [List.nil_append, List.length_nil] at h1
  rw [show ((0 : Nat) : Int) = 0 from rfl] at h1
  simp only [Bool.not_true, cond_false, if_true, if_pos g1]
  rw [wrap_succ (by omega), h1]
  simp only [Option.bind_some, Sum.elim_inl, tube_Empty_eq k (show 100 <= k by omega), if_true]
  rw [show ((st, nx inn l, fitN l none) : Tb) = fitU (st, inn, l) from rfl, hm']
  cases he : emptyT (fitU (st, inn, l))
  ·rfl
  ·simp only [Bool.not_true, Bool.false_or, cond_true]
   rw [tube_void_eq k _ (by simp only [fitU, fitN_len]; omega) (by simp only [fitU, fitN_len]; omega)]
   simp [fitU, fitN_ends]
abbrev zT : Tb := (zN, (false, zN, zN), [])
def gateT (t : Tb) (i : Int) : Iv := if mayT t = true /\ 0 <= i /\ i <= t.2.2.length then (if i = 0 then t.2.1 else ((t.2.2[(i - 1).toNat]?).map (·.2.2)).getD noneI) else noneI
def appT (t : Tb) (n : Nm) (a o : Iv) : Tb × Int :=
 if mayT t && finite n && mayI a && mayI o then (if 64 <= t.2.2.length then (zT, 3) else if cmp n (wn t.1 t.2.2) <= 0 then (zT, 6) else ((t.1, t.2.1, t.2.2 ++ [(n, a, o)]), 0)) else (zT, 1)
def newT (n : Nm) (x : Iv) : Tb × Int := if mayT (n, x, []) then ((n, x, []), 0) else (zT, 1)
def setO (l : List Sl) (i : Nat) (x : Iv) : List Sl := match l[i]? with | some s => l.set i (s.1, s.2.1, two s.2.2 x) | none => l
def setT (t : Tb) (i : Int) (x : Iv) : Tb × Int :=
 if mayT t && mayI x then (if i < 0 \/ i > t.2.2.length then (zT, 7) else if i = 0 then (fitT (t.1, two t.2.1 x, t.2.2), 0) else (fitT (t.1, t.2.1, setO t.2.2 (i - 1).toNat x), 0)) else (zT, 1)
theorem tube_Gate_eq (k : Nat) (hk : 100 <= k) (t : Tb) (i : Int) : tube_Gate k t i = some (gateT t i, ()) := by
 simp only [tube_Gate, tube_May_eq k hk, iv_None_eq, Option.bind_some, gateT]
 cases hm : mayT t
 ·simp
 ·have hl := mayT_len hm
  by_cases h1 : i < 0
  ·have : ¬ 0 <= i := by omega
   simp [h1, this]
  ·by_cases h2 : i > t.2.2.length
   ·have : ¬ i <= t.2.2.length := by omega
    simp [h1, h2, this]
   ·simp only [Bool.not_true, cond_false, cond_f h1, cond_f h2]
    rw [if_pos (show (True /\ 0 <= i /\ i <= (t.2.2.length : Int)) from ⟨trivial, by omega, by omega⟩)]
    by_cases h3 : i = 0
    ·simp [h3]
    ·rw [beq_f h3, if_neg h3, wrap_small (by omega) (by omega), cond_false, if_pos (by omega)]
     obtain ⟨s, hs⟩ : ∃ s, t.2.2[(i - 1).toNat]? = some s := ⟨_, List.getElem?_eq_getElem (by omega)⟩
     rw [hs]; rfl
theorem tube_Append_eq (k : Nat) (hk : 100 <= k) (t : Tb) (n : Nm) (a o : Iv) : tube_Append k t n a o = some ((appT t n a o).1, (appT t n a o).2, ()) := by
 simp only [tube_Append, tube_May_eq k hk, tube_finite_eq, iv_May_eq, Option.bind_some, appT]
 cases hm : mayT t
 ·simp
 ·have hl := mayT_len hm
  rw [tube_end_eq k t (by omega)]
  have g1 : t.2.2.length * 176 <= 140737488355328 := by omega
  have g2 : (t.2.2.length + [(n, a, o)].length) * 176 <= 140737488355328 := by simp; omega
  simp only [num_Cmp_eq, Option.bind_some, if_pos g1, if_pos g2]
  cases finite n
  ·simp
  ·cases mayI a
   ·simp
   ·cases mayI o
    ·simp
    ·by_cases h1 : 64 <= t.2.2.length
     ·have : (t.2.2.length : Int) >= 64 := by omega
      simp [h1, this]
     ·have : ¬ (t.2.2.length : Int) >= 64 := by omega
      by_cases h2 : cmp n (wn t.1 t.2.2) <= 0
      ·simp only [Bool.not_true, cond_false, cond_f this, cond_t h2, Bool.and_self, if_true, if_neg h1, if_pos h2]
      ·simp only [Bool.not_true, cond_false, cond_f this, cond_f h2, Bool.and_self, if_true, if_neg h1, if_neg h2]
theorem tube_New_eq (k : Nat) (hk : 100 <= k) (n : Nm) (x : Iv) : tube_New k n x = some ((newT n x).1, (newT n x).2, ()) := by
 simp only [tube_New, tube_May_eq k hk, Option.bind_some, newT]
 cases mayT (n, x, []) <;> rfl
theorem tube_Set_eq (k : Nat) (hk : 200 <= k) (t : Tb) (i : Int) (x : Iv) : tube_Set k t i x = some ((setT t i x).1, (setT t i x).2, ()) := by
 simp only [tube_Set, tube_May_eq k (show 100 <= k by omega), iv_May_eq, Option.bind_some, setT]
 cases hm : mayT t
 ·simp
 ·cases mayI x
  ·simp
  ·have hl := mayT_len hm
   have g1 : t.2.2.length * 176 <= 140737488355328 := by omega
   by_cases h1 : i < 0
   ·simp [h1]
   ·by_cases h2 : i > t.2.2.length
    ·simp [h1, h2]
    ·simp only [Bool.not_true, cond_false, cond_f h1, cond_f h2, if_pos g1, Bool.and_self, if_true]
     rw [if_neg (show ¬ (i < 0 \/ i > (t.2.2.length : Int)) by omega)]
     by_cases h3 : i = 0
     ·rw [beq_t h3, if_pos h3]
      simp only [cond_true, iv_Meet2 k _ _ (show 3 <= k by omega), tube_Fit_eq k hk, Option.bind_some]
     ·rw [beq_f h3, if_neg h3, wrap_small (by omega) (by omega), cond_false, if_pos (by omega)]
      obtain ⟨s, hs⟩ : ∃ s, t.2.2[(i - 1).toNat]? = some s := ⟨_, List.getElem?_eq_getElem (by omega)⟩
      simp only [setO]
      rw [hs]
      simp only [iv_Meet2 k _ _ (show 3 <= k by omega), tube_Fit_eq k hk, Option.bind_some]
theorem same_loop (k : Nat) (a1 b1 : Nm) (a2 b2 : Iv) : ∀ (m : Nat) (s s' pre pre' : List Sl), s.length < m -> pre.length + s.length <= 1000000 -> s.length = s'.length -> pre.length = pre'.length ->
  pelorusref17_Same_l0 k m (((), (), (pre.length : Int), ()), ((a1, a2, pre ++ s), (b1, b2, pre' ++ s'), ())) = some (bif decide (s = s') then Sum.inr (Sum.inl ((), ())) else Sum.inl ((false, ()), ())) := by
 intro m
 induction m with
 | zero => intro s s' pre pre' hm; omega
 | succ m IH =>
  intro s s' pre pre' hm hl hs hp
  cases s with
  | nil =>
   cases s' with
   | nil => simp [pelorusref17_Same_l0]
   | cons => simp at hs
  | cons y s =>
   cases s' with
   | nil => simp at hs
   | cons z s' =>
    simp only [List.length_cons] at hm hl hs
    have ih := IH s s' (pre ++ [y]) (pre' ++ [z]) (by omega) (by simp; omega) (by omega) (by simp; omega)
    simp only [mid_eq, len_snoc] at ih
    simp only [pelorusref17_Same_l0, cond_t (len_lt pre y s), if_pos (Int.natCast_nonneg pre.length), at_mid, get_mid pre' z s' pre.length hp.symm, Option.bind_some, wrap_succ (show pre.length <= 1000000000 by omega), beqS]
    rw [ih]
    by_cases h : y = z
    ·simp [h]
    ·simp [h]
instance decTb : DecidableEq Tb := fun x y => decidable_of_iff (x.1 = y.1 /\ x.2.1 = y.2.1 /\ x.2.2 = y.2.2) ⟨fun h => Prod.ext h.1 (Prod.ext h.2.1 h.2.2), fun h => h ▸ ⟨rfl, rfl, rfl⟩⟩
theorem same_eq (k : Nat) (a b : Tb) (h : a.2.2.length < k) (hl : a.2.2.length <= 1000000) : pelorusref17_Same k a b = some (decide (a = b), ()) := by
 obtain ⟨a1, a2, a3⟩ := a; obtain ⟨b1, b2, b3⟩ := b
 simp only at h hl
 simp only [pelorusref17_Same, beqN, beqI]
 by_cases h1 : a1 = b1
 ·by_cases h2 : a2 = b2
  ·by_cases h3 : a3.length = b3.length
   ·have h4 := same_loop k a1 b1 a2 b2 k a3 b3 [] [] h (by simp; omega) h3 rfl
    simp only [List.nil_append, List.length_nil] at h4
    rw [show ((0 : Nat) : Int) = 0 from rfl] at h4
    rw [h4]
    by_cases h5 : a3 = b3
    ·subst h1 h2 h5; simp
    ·simp [h1, h2, h3, h5]
   ·have h4 : ((a3.length : Int) != (b3.length : Int)) = true := by simp; omega
    have h5 : ¬ a3 = b3 := fun e => h3 (by rw [e])
    simp [h1, h2, h4, h5]
  ·simp [h1, h2]
 ·simp [h1]
def ends (l : List Sl) : List Nm := l.map (·.1)
def sameT (a b : Tb) : Bool := decide (a.1 = b.1) && decide (ends a.2.2 = ends b.2.2)
def timesT (a b : Tb) : Bool := mayT a && mayT b && sameT a b
def wiS (x y : Sl) : Bool := within x.2.1 y.2.1 && within x.2.2 y.2.2
def allW : List Sl -> List Sl -> Bool
 | x :: s, y :: r => wiS x y && allW s r
 | _, _ => true
def withinT (a b : Tb) : Bool := timesT a b && (emptyT a || (allW a.2.2 b.2.2 && within a.2.1 b.2.1))
theorem ends_cons (y : Sl) (s : List Sl) : ends (y :: s) = y.1 :: ends s := rfl
theorem sameT_len {a b : Tb} (h : sameT a b = true) : a.2.2.length = b.2.2.length := by
 simp only [sameT, Bool.and_eq_true, decide_eq_true_eq] at h
 have := congrArg List.length h.2
 simpa [ends] using this
theorem fitT_len (t : Tb) : (fitT t).2.2.length = t.2.2.length := by
 unfold fitT
 repeat' split
 all_goals simp [fitU, fitN_len]
theorem setT_len (t : Tb) (i : Int) (x : Iv) : (setT t i x).1.2.2.length <= t.2.2.length := by
 unfold setT setO
 repeat' split
 all_goals simp [fitT_len]
theorem newT_len (n : Nm) (x : Iv) : (newT n x).1.2.2.length = 0 := by
 unfold newT
 split <;> rfl
theorem within_none (b : Iv) : within noneI b = true := by
 unfold within; rw [fairI_may mayI_noneI]; rfl
theorem within_refl (a : Iv) : within a a = true := by
 unfold within
 cases (fairI a).1 <;> simp [cmp_self]
theorem within_iff {a b : Iv} : within a b = true ↔ (fairI a).1 = true \/ ((fairI b).1 = false /\ cmp (fairI b).2.1 (fairI a).2.1 <= 0 /\ cmp (fairI a).2.2 (fairI b).2.2 <= 0) := by
 simp only [within, Bool.or_eq_true, Bool.and_eq_true, decide_eq_true_eq, Bool.not_eq_true', and_assoc]
theorem within_trans {a b c : Iv} (h1 : within a b = true) (h2 : within b c = true) : within a c = true := by
 rw [within_iff] at *
 rcases h1 with h1 | ⟨h1, h3, h4⟩
 ·exact .inl h1
 ·rcases h2 with h2 | ⟨h2, h5, h6⟩
  ·rw [h1] at h2; cases h2
  ·exact .inr ⟨h2, cmp_le_trans h5 h3, cmp_le_trans h4 h6⟩
theorem two_cases (a b : Iv) : two a b = noneI \/ ((fairI a).1 = false /\ (fairI b).1 = false /\ two a b = (false, most [(fairI a).2.1, (fairI b).2.1], least [(fairI a).2.2, (fairI b).2.2])) := by
 unfold two
 cases ha : (fairI a).1 <;> cases hb : (fairI b).1
 ·simp only [Bool.or_self, Bool.false_eq_true, if_false]
  rcases mkI_cases (most [(fairI a).2.1, (fairI b).2.1]) (least [(fairI a).2.2, (fairI b).2.2]) with h | ⟨h, _⟩
  ·exact .inl h
  ·right
   rw [h, fair_may (most_may _), fair_may (least_may _)]
   exact ⟨trivial, trivial, rfl⟩
 all_goals simp
theorem two_le_left (a b : Iv) : within (two a b) a = true := by
 rw [within_iff, fairI_may (mayI_two a b)]
 rcases two_cases a b with h | ⟨h1, h2, h3⟩
 ·left; rw [h]
 ·right
  rw [h3]
  exact ⟨h1, most_ge (by simp), least_le (by simp)⟩
theorem g2_le (s : Sl) (n : Option Sl) : within (g2 s n) s.2.2 = true := by
 cases n with
 | none => exact two_le_left _ _
 | some s' => exact within_trans (two_le_left _ _) (two_le_left _ _)
theorem nx_le (x : Iv) (l : List Sl) : within (nx x l) x = true := by
 cases l with
 | nil => exact within_refl _
 | cons s r => exact two_le_left _ _
theorem ends_fitN (l : List Sl) (n : Option Sl) : ends (fitN l n) = ends l := by
 induction l with
 | nil => rfl
 | cons s r ih => rw [fitN_cons, ends_cons, ends_cons, ih]
theorem ends_void (l : List Sl) : ends (l.map voidS) = ends l := by simp [ends, voidS]
theorem okS_void : ∀ (l : List Sl) (w : Nm), okS w l = true -> okS w (l.map voidS) = true
 | [], _, _ => rfl
 | s :: r, w, h => by
  simp only [List.map_cons, okS, Bool.and_eq_true, voidS] at h ⊢
  exact ⟨⟨⟨h.1.1.1, mayI_noneI⟩, mayI_noneI⟩, okS_void r s.1 h.2⟩
theorem mayT_void {t : Tb} (h : mayT t = true) : mayT (t.1, noneI, t.2.2.map voidS) = true := by
 simp only [mayT, Bool.and_eq_true, decide_eq_true_eq] at h ⊢
 exact ⟨⟨⟨h.1.1.1, mayI_noneI⟩, by simpa using h.1.2⟩, okS_void _ _ h.2⟩
theorem mayT_fitT {t : Tb} (h : mayT t = true) : mayT (fitT t) = true := by
 unfold fitT
 rw [if_pos h]
 split
 ·exact mayT_void h
 ·exact mayT_fitU h
theorem fitT_1 (t : Tb) : (fitT t).1 = t.1 := by
 unfold fitT; repeat' split
 all_goals rfl
theorem ends_fitT (t : Tb) : ends (fitT t).2.2 = ends t.2.2 := by
 unfold fitT; repeat' split
 ·exact ends_void _
 ·exact ends_fitN _ _
 ·rfl
theorem allW_fitN (l : List Sl) (n : Option Sl) : allW (fitN l n) l = true := by
 induction l with
 | nil => rfl
 | cons s r ih => rw [fitN_cons, allW, ih]; simp [wiS, within_refl, g2_le]
theorem sameT_fitT (t : Tb) : sameT (fitT t) t = true := by simp [sameT, fitT_1, ends_fitT]
theorem allW_trans : ∀ (a b c : List Sl), a.length = b.length -> b.length = c.length -> allW a b = true -> allW b c = true -> allW a c = true
 | [], _, _, _, _, _, _ => by simp [allW]
 | _ :: _, [], _, h, _, _, _ => by simp at h
 | _ :: _, _ :: _, [], _, h, _, _ => by simp at h
 | x :: a, y :: b, z :: c, h, h', h1, h2 => by
  simp only [allW, wiS, Bool.and_eq_true, List.length_cons] at *
  exact ⟨⟨within_trans h1.1.1 h2.1.1, within_trans h1.1.2 h2.1.2⟩, allW_trans a b c (by omega) (by omega) h1.2 h2.2⟩
theorem withinT_fitT {u t : Tb} (hu : mayT u = true) (ht : mayT t = true) (hs : sameT u t = true) (ha : allW u.2.2 t.2.2 = true) (hi : within u.2.1 t.2.1 = true) : withinT (fitT u) t = true := by
 have hl := sameT_len hs
 simp only [sameT, Bool.and_eq_true, decide_eq_true_eq] at hs
 simp only [withinT, timesT, sameT, mayT_fitT hu, ht, fitT_1, ends_fitT, hs.1, hs.2, decide_true, Bool.and_self, Bool.true_and]
 unfold fitT
 rw [if_pos hu]
 split
 ·rfl
 ·simp only [fitU, Bool.or_eq_true, Bool.and_eq_true]
  exact .inr ⟨allW_trans _ _ _ (fitN_len _ _) hl (allW_fitN _ _) ha, within_trans (nx_le _ _) hi⟩
theorem allW_refl : ∀ l : List Sl, allW l l = true
 | [] => rfl
 | x :: l => by simp [allW, wiS, within_refl, allW_refl l]
theorem setO_spec {l : List Sl} {i : Nat} (h : i < l.length) (x : Iv) : setO l i x = l.set i (l[i].1, l[i].2.1, two l[i].2.2 x) := by
 unfold setO; rw [List.getElem?_eq_getElem h]
theorem allW_set : ∀ (l : List Sl) (i : Nat) (x : Iv), allW (setO l i x) l = true
 | [], i, x => by simp [setO, allW]
 | s :: r, 0, x => by simp [setO, allW, wiS, within_refl, two_le_left, allW_refl]
 | s :: r, i + 1, x => by
  have ih := allW_set r i x
  unfold setO at *
  simp only [List.getElem?_cons_succ]
  cases hr : r[i]? with
  | none => rw [hr] at ih; simp [allW, wiS, within_refl, allW_refl]
  | some q => rw [hr] at ih; simp only at ih ⊢; simp [allW, wiS, within_refl, ih]
theorem ends_set (l : List Sl) (i : Nat) (x : Iv) : ends (setO l i x) = ends l := by
 unfold setO
 cases h : l[i]? with
 | none => rfl
 | some q =>
  simp only [ends, List.map_set]
  obtain ⟨hi, he⟩ := List.getElem?_eq_some_iff.1 h
  apply List.ext_getElem
  ·simp
  ·intro n h1 h2
   rw [List.getElem_set]
   split
   ·rename_i e; subst e; simp [he]
   ·rfl
theorem okS_set : ∀ (l : List Sl) (w : Nm) (i : Nat) (x : Iv), okS w l = true -> okS w (setO l i x) = true
 | [], w, i, x, _ => by simp [setO, okS]
 | s :: r, w, 0, x, h => by
  simp only [setO, List.getElem?_cons_zero, List.set_cons_zero, okS, Bool.and_eq_true] at h ⊢
  exact ⟨⟨h.1.1, mayI_two _ _⟩, h.2⟩
 | s :: r, w, i + 1, x, h => by
  simp only [okS, Bool.and_eq_true] at h
  have ih := okS_set r s.1 i x h.2
  unfold setO at *
  simp only [List.getElem?_cons_succ]
  cases hr : r[i]? with
  | none => simp only [okS, Bool.and_eq_true]; exact h
  | some q => rw [hr] at ih; simp only [List.set_cons_succ, okS, Bool.and_eq_true] at ih ⊢; exact ⟨h.1, ih⟩
theorem setO_len (l : List Sl) (i : Nat) (x : Iv) : (setO l i x).length = l.length := by
 unfold setO; split <;> simp
theorem fitN_get (l : List Sl) (n : Option Sl) (i : Nat) (h : i < l.length) : ∃ o, (fitN l n)[i]? = some (l[i].1, l[i].2.1, g2 l[i] o) := by
 induction l generalizing i with
 | nil => simp at h
 | cons s r ih =>
  rw [fitN_cons]
  cases i with
  | zero => exact ⟨_, rfl⟩
  | succ i => simpa using ih i (by simpa using h)
theorem gate_fitT {u : Tb} (hu : mayT u = true) {i : Int} (h0 : 0 <= i) (h1 : i <= u.2.2.length) : within (gateT (fitT u) i) (gateT u i) = true /\ (emptyT (fitT u) = true -> (gateT (fitT u) i).1 = true) := by
 have hl := fitT_len u
 have e1 : gateT u i = if i = 0 then u.2.1 else ((u.2.2[(i - 1).toNat]?).map (·.2.2)).getD noneI := by unfold gateT; rw [if_pos ⟨hu, h0, h1⟩]
 have e2 : gateT (fitT u) i = if i = 0 then (fitT u).2.1 else (((fitT u).2.2[(i - 1).toNat]?).map (·.2.2)).getD noneI := by unfold gateT; rw [if_pos ⟨mayT_fitT hu, h0, by rw [hl]; exact h1⟩]
 by_cases he : emptyT (fitU u) = true
 ·have ef : fitT u = (u.1, noneI, u.2.2.map voidS) := by unfold fitT; rw [if_pos hu, if_pos he]
  have e3 : gateT (fitT u) i = noneI := by
   rw [e2, ef]
   split
   ·rfl
   ·cases hq : u.2.2[(i - 1).toNat]? with
    | none => rw [List.getElem?_map, hq]; rfl
    | some q => rw [List.getElem?_map, hq]; rfl
  rw [e3]
  exact ⟨within_none _, fun _ => rfl⟩
 ·have ef : fitT u = fitU u := by unfold fitT; rw [if_pos hu, if_neg he]
  rw [e1, e2, ef]
  refine ⟨?_, fun h => absurd h he⟩
  split
  ·exact nx_le _ _
  ·have hi : (i - 1).toNat < u.2.2.length := by omega
   obtain ⟨o, ho⟩ := fitN_get u.2.2 none _ hi
   simp only [fitU, ho, List.getElem?_eq_getElem hi, Option.map_some, Option.getD_some]
   exact g2_le _ _
theorem setT_laws {t : Tb} {i : Int} {x : Iv} (h : (setT t i x).2 = 0) : withinT (setT t i x).1 t = true /\ within (gateT (setT t i x).1 i) (two (gateT t i) x) = true /\ mayT (setT t i x).1 = true /\ (emptyT (setT t i x).1 = true -> (gateT (setT t i x).1 i).1 = true) := by
 unfold setT at h ⊢
 split at h
 case isFalse => cases h
 rename_i hm
 rw [if_pos hm]
 simp only [Bool.and_eq_true] at hm
 obtain ⟨hm, hx⟩ := hm
 split at h
 case isTrue => cases h
 rename_i hb
 rw [if_neg hb]
 have hmm := hm
 simp only [mayT, Bool.and_eq_true, decide_eq_true_eq] at hmm
 obtain ⟨⟨⟨a1, a2⟩, a3⟩, a4⟩ := hmm
 have gt : gateT t i = if i = 0 then t.2.1 else ((t.2.2[(i - 1).toNat]?).map (·.2.2)).getD noneI := by unfold gateT; rw [if_pos ⟨hm, by omega, by omega⟩]
 split
 ·rename_i h0
  have hu : mayT (t.1, two t.2.1 x, t.2.2) = true := by
   simp only [mayT, Bool.and_eq_true, decide_eq_true_eq]
   exact ⟨⟨⟨a1, mayI_two _ _⟩, a3⟩, a4⟩
  obtain ⟨g1, g3⟩ := gate_fitT hu (i := i) (by omega) (by simp only; omega)
  refine ⟨withinT_fitT hu hm (by simp [sameT]) (allW_refl _) (two_le_left _ _), ?_, mayT_fitT hu, g3⟩
  refine within_trans g1 ?_
  have : gateT (t.1, two t.2.1 x, t.2.2) i = two t.2.1 x := by unfold gateT; rw [if_pos ⟨hu, by omega, by simp only; omega⟩, if_pos h0]
  rw [this, gt, if_pos h0]
  exact within_refl _
 ·rename_i h0
  have hu : mayT (t.1, t.2.1, setO t.2.2 (i - 1).toNat x) = true := by
   simp only [mayT, Bool.and_eq_true, decide_eq_true_eq]
   exact ⟨⟨⟨a1, a2⟩, by rw [setO_len]; exact a3⟩, okS_set _ _ _ _ a4⟩
  obtain ⟨g1, g3⟩ := gate_fitT hu (i := i) (by omega) (by simp only [setO_len]; omega)
  refine ⟨withinT_fitT hu hm (by simp [sameT, ends_set]) (allW_set _ _ _) (within_refl _), ?_, mayT_fitT hu, g3⟩
  refine within_trans g1 ?_
  have hi : (i - 1).toNat < t.2.2.length := by omega
  have : gateT (t.1, t.2.1, setO t.2.2 (i - 1).toNat x) i = two t.2.2[(i - 1).toNat].2.2 x := by
   unfold gateT
   rw [if_pos ⟨hu, by omega, by simp only [setO_len]; omega⟩, if_neg h0, setO_spec hi]
   simp only [List.getElem?_set_self hi, Option.map_some, Option.getD_some]
  rw [this, gt, if_neg h0, List.getElem?_eq_getElem hi]
  exact within_refl _
def bl (n : Int) : Int := if n <= 0 then 0 else (Nat.log2 n.toNat : Int) + 1
theorem p2_pos (i : Nat) : (0 : Int) < 2 ^ i := Int.pow_pos (by decide)
theorem p2_succ (i : Nat) : (2 : Int) ^ (i + 1) = 2 * 2 ^ i := by rw [Int.pow_succ, Int.mul_comm]
theorem p2_add (i j : Nat) : (2 : Int) ^ (i + j) = 2 ^ i * 2 ^ j := Int.pow_add _ _ _
theorem p2_mono {i j : Nat} (h : i <= j) : (2 : Int) ^ i <= 2 ^ j := by
 obtain ⟨d, rfl⟩ := Nat.le.dest h
 rw [p2_add]
 have h1 := p2_pos i
 have h2 : (1 : Int) <= 2 ^ d := by have := p2_pos d; omega
 have := Int.mul_le_mul_of_nonneg_left h2 (c := 2 ^ i) (by omega)
 omega
theorem p2_lt {i j : Nat} (h : (2 : Int) ^ i < 2 ^ j) : i < j := by
 by_cases hq : i < j
 ·exact hq
 ·have := p2_mono (i := j) (j := i) (by omega)
  omega
theorem bl_pos {n : Int} (h : 0 < n) : 0 < bl n := by unfold bl; rw [if_neg (by omega)]; omega
theorem bl_nonneg (n : Int) : 0 <= bl n := by unfold bl; split <;> omega
theorem bl_ge {n : Int} (h : 0 < n) : (2 : Int) ^ (bl n - 1).toNat <= n := by
 obtain ⟨m, rfl⟩ : ∃ m : Nat, n = m := ⟨n.toNat, by omega⟩
 unfold bl
 rw [if_neg (by omega)]
 have := Nat.log2_self_le (n := m) (by omega)
 rw [Int.add_sub_cancel, Int.toNat_natCast, Int.toNat_natCast]
 exact_mod_cast this
theorem bl_lt {n : Int} (h : 0 <= n) : n < (2 : Int) ^ (bl n).toNat := by
 obtain ⟨m, rfl⟩ : ∃ m : Nat, n = m := ⟨n.toNat, by omega⟩
 unfold bl
 by_cases hm : m = 0
 ·subst hm; decide
 ·rw [if_neg (by omega)]
  have := Nat.lt_log2_self (n := m)
  have e : ((Nat.log2 (m : Int).toNat : Int) + 1).toNat = m.log2 + 1 := by rw [Int.toNat_natCast]; omega
  rw [e]
  exact_mod_cast this
theorem bl_eq {n : Int} {m : Nat} (h0 : (2 : Int) ^ m <= n) (h1 : n < 2 ^ (m + 1)) : bl n = (m : Int) + 1 := by
 have hp := p2_pos m
 have a := bl_ge (n := n) (by omega)
 have b := bl_lt (n := n) (by omega)
 have c := bl_pos (n := n) (by omega)
 have d := p2_lt (Int.lt_of_le_of_lt a h1)
 have e := p2_lt (Int.lt_of_le_of_lt h0 b)
 omega
theorem bl_le {n : Int} {m : Nat} (h1 : n < 2 ^ m) : bl n <= m := by
 by_cases h : 0 < n
 ·have a := bl_ge h
  have d := p2_lt (Int.lt_of_le_of_lt a h1)
  omega
 ·unfold bl; rw [if_pos (by omega)]; omega
theorem bl_shift {x : Int} (j : Nat) (h : 0 < x / 2 ^ j) : bl x = j + bl (x / 2 ^ j) := by
 have a := bl_ge h
 have b := bl_lt (n := x / 2 ^ j) (by omega)
 have c := bl_pos h
 have p := p2_pos j
 have h1 : (2 : Int) ^ (j + (bl (x / 2 ^ j) - 1).toNat) <= x := by
  rw [p2_add]
  have := Int.mul_le_mul_of_nonneg_left a (c := 2 ^ j) (by omega)
  have e := Int.mul_ediv_add_emod x (2 ^ j)
  have f := Int.emod_nonneg x (b := 2 ^ j) (by omega)
  omega
 have h2 : x < (2 : Int) ^ (j + (bl (x / 2 ^ j) - 1).toNat + 1) := by
  rw [show j + (bl (x / 2 ^ j) - 1).toNat + 1 = j + (bl (x / 2 ^ j)).toNat by omega, p2_add]
  have h3 : x / 2 ^ j + 1 <= 2 ^ (bl (x / 2 ^ j)).toNat := b
  have := Int.mul_le_mul_of_nonneg_left h3 (c := 2 ^ j) (by omega)
  have e := Int.mul_ediv_add_emod x (2 ^ j)
  have f := Int.emod_lt_of_pos x p
  rw [Int.mul_add] at this
  omega
 have := bl_eq h1 h2
 omega
theorem mul_bound {x y : Int} (hx : 0 <= x /\ x < 4294967296) (hy : 0 <= y /\ y < 4294967296) : 0 <= x * y /\ x * y <= 18446744065119617025 := by
 refine ⟨Int.mul_nonneg hx.1 hy.1, ?_⟩
 have h1 := Int.mul_le_mul (a := x) (b := y) (c := 4294967295) (d := 4294967295) (by omega) (by omega) hy.1 (by omega)
 omega
theorem bl_mul {v : Int} (h : 0 < v) (n : Nat) : bl (v * 2 ^ n) = bl v + n := by
 have hp := p2_pos n
 have e : v * 2 ^ n / 2 ^ n = v := Int.mul_ediv_cancel _ (by omega)
 have := bl_shift (x := v * 2 ^ n) n (by rw [e]; exact h)
 rw [this, e, Int.add_comm]
theorem bits_or_comm (k : IntKind) (x y : Int) : Go.bits .or k x y = Go.bits .or k y x := by simp only [Go.bits, BitVec.or_comm]
theorem u64w {x : Int} (h0 : 0 <= x) (h1 : x < 18446744073709551616) : IntKind.u64.wrap x = x := wraps_u64 x h0 h1
theorem wrap_u64 (x : Int) : IntKind.u64.wrap x = x % 18446744073709551616 := by rw [IntKind.wrap_u64]
def bnd (neg : Bool) (m e : Int) (away : Bool) : Nm :=
 if e > 1048576 then (if away = true then (2, neg, 0, 0) else (1, neg, 18446744073709551615, 1048576))
 else if e < -1048576 then (if away = true then (1, neg, 9223372036854775808, -1048576) else (0, false, 0, 0))
 else (1, neg, m, e)
def grw (neg : Bool) (m e : Int) (cut away : Bool) : Nm :=
 if cut = true /\ away = true then (if m + 1 = 18446744073709551616 then bnd neg 9223372036854775808 (e + 1) away else bnd neg (m + 1) e away) else bnd neg m e away
def rnd (neg : Bool) (v e : Int) (away : Bool) : Nm :=
 if bl v <= 64 then bnd neg (v * 2 ^ (64 - bl v).toNat) (e + bl v - 64) away
 else grw neg (v / 2 ^ (bl v - 64).toNat) (e + bl v - 64) (decide (v % 2 ^ (bl v - 64).toNat ≠ 0)) away
theorem p63 : (2 : Int) ^ 63 = 9223372036854775808 := by decide
theorem p64 : (2 : Int) ^ 64 = 18446744073709551616 := by decide
theorem mul_le_p {a b : Int} (t : Nat) (h : a <= b) : a * 2 ^ t <= b * 2 ^ t := Int.mul_le_mul_of_nonneg_right h (by have := p2_pos t; omega)
theorem mul_lt_p {a b : Int} (t : Nat) (h : a < b) : a * 2 ^ t < b * 2 ^ t := Int.mul_lt_mul_of_pos_right h (p2_pos t)
theorem le_of_p {a b : Int} (t : Nat) (h : a * 2 ^ t <= b * 2 ^ t) : a <= b := Int.le_of_mul_le_mul_right h (p2_pos t)
theorem lt_of_p {a b : Int} (t : Nat) (h : a * 2 ^ t < b * 2 ^ t) : a < b := Int.lt_of_mul_lt_mul_right h (by have := p2_pos t; omega)
theorem eq_of_p {a b : Int} (t : Nat) (h : a * 2 ^ t = b * 2 ^ t) : a = b := by
 have h1 := le_of_p t (Int.le_of_eq h)
 have h2 := le_of_p t (Int.le_of_eq h.symm)
 omega
theorem pos_of_p {a : Int} (t : Nat) (h : 0 < a * 2 ^ t) : 0 < a := by
 refine lt_of_p (a := 0) t ?_
 omega
theorem bl_in {x q : Int} {t : Nat} (q0 : 9223372036854775808 <= q) (q1 : q < 18446744073709551616) (h1 : q * 2 ^ t <= x) (h2 : x < (q + 1) * 2 ^ t) : bl x = 64 + t := by
 have a := mul_le_p t q0
 have b := mul_le_p (a := q + 1) (b := 18446744073709551616) t (by omega)
 rw [<- p63, <- p2_add] at a
 rw [<- p64, <- p2_add] at b
 have := bl_eq (n := x) (m := 63 + t) (by omega) (by rw [show 63 + t + 1 = 64 + t by omega]; omega)
 omega
theorem blp {v : Int} (h : 0 < v) (n : Nat) : bl (v * 2 ^ n) = bl v + n := bl_mul h n
def Fit (v e q E : Int) (c : Bool) : Prop :=
 9223372036854775808 <= q /\ q < 18446744073709551616 /\ ∃ s t : Nat, e - s = E - t /\ q * 2 ^ t <= v * 2 ^ s /\ v * 2 ^ s < (q + 1) * 2 ^ t /\ (c = true ↔ q * 2 ^ t ≠ v * 2 ^ s)
theorem rnd_fit {v e q E : Int} {c : Bool} (h : Fit v e q E c) (neg away : Bool) : rnd neg v e away = grw neg q E c away := by
 obtain ⟨q0, q1, s, t, he, h1, h2, hc⟩ := h
 have hv : 0 < v := by
  have := Int.mul_pos (show 0 < q by omega) (p2_pos t)
  exact pos_of_p s (by omega)
 have hb := bl_in q0 q1 h1 h2
 rw [blp hv] at hb
 unfold rnd
 by_cases hts : t <= s
 ·obtain ⟨d, rfl⟩ := Nat.le.dest hts
  rw [if_pos (by omega)]
  rw [show (64 - bl v).toNat = d by omega, show e + bl v - 64 = E by omega]
  rw [Nat.add_comm t d, p2_add, <- Int.mul_assoc] at h1 h2 hc
  have e1 := le_of_p t h1
  have e2 := lt_of_p t h2
  have e3 : v * 2 ^ d = q := by omega
  rw [e3] at hc ⊢
  unfold grw
  rw [if_neg (fun hh => hc.1 hh.1 rfl)]
 ·obtain ⟨d, rfl⟩ := Nat.le.dest (show s <= t by omega)
  rw [if_neg (by omega)]
  rw [show (bl v - 64).toNat = d by omega, show e + bl v - 64 = E by omega]
  rw [Nat.add_comm s d, p2_add, <- Int.mul_assoc] at h1 hc
  rw [Nat.add_comm s d, p2_add, <- Int.mul_assoc] at h2
  have e1 := le_of_p s h1
  have e2 := lt_of_p s h2
  have e4 : (v - q * 2 ^ d) = v - 2 ^ d * q := by rw [Int.mul_comm q]
  have hp := p2_pos d
  rw [Int.add_mul, Int.one_mul] at e2
  have e5 : v = (v - q * 2 ^ d) + 2 ^ d * q := by omega
  have e6 : v / 2 ^ d = q := by
   rw [e5, Int.add_mul_ediv_left _ _ (by omega), Int.ediv_eq_zero_of_lt (by omega) (by omega)]
   omega
  have e7 : v % 2 ^ d = v - q * 2 ^ d := by
   conv => lhs; rw [e5]
   rw [Int.add_mul_emod_self_left, Int.emod_eq_of_lt (by omega) (by omega)]
  rw [e6, e7]
  congr 1
  rw [Bool.eq_iff_iff, decide_eq_true_iff, hc]
  constructor
  ·intro h3 h4; exact h3 (by have := eq_of_p s h4; omega)
  ·intro h3 h4; exact h3 (by rw [show v = q * 2 ^ d by omega])
theorem fit_ex {v : Int} (e : Int) (hv : 0 < v) : ∃ q E c, Fit v e q E c := by
 have hb := bl_pos hv
 have hg := bl_ge hv
 have hl := bl_lt (n := v) (by omega)
 by_cases h : bl v <= 64
 ·obtain ⟨d, hd⟩ : ∃ d : Nat, bl v = 64 - d := ⟨(64 - bl v).toNat, by omega⟩
  refine ⟨v * 2 ^ d, e - d, false, ?_, ?_, d, 0, by omega, by simp, ?_, by simp⟩
  ·have := mul_le_p d hg
   rw [<- p2_add, show (bl v - 1).toNat + d = 63 by omega, p63] at this
   exact this
  ·have := mul_lt_p d hl
   rw [<- p2_add, show (bl v).toNat + d = 64 by omega, p64] at this
   exact this
  ·rw [Int.pow_zero, Int.mul_one]; omega
 ·obtain ⟨d, hd⟩ : ∃ d : Nat, bl v = 64 + d := ⟨(bl v - 64).toNat, by omega⟩
  have hp := p2_pos d
  have e1 := Int.mul_ediv_add_emod v (2 ^ d)
  have e2 := Int.emod_nonneg v (b := 2 ^ d) (by omega)
  have e3 := Int.emod_lt_of_pos v hp
  rw [Int.mul_comm] at e1
  rw [show (bl v - 1).toNat = 63 + d by omega, p2_add, p63] at hg
  rw [show (bl v).toNat = 64 + d by omega, p2_add, p64] at hl
  refine ⟨v / 2 ^ d, e + d, decide (v % 2 ^ d ≠ 0), ?_, ?_, 0, d, by omega, by rw [Int.pow_zero, Int.mul_one]; omega, ?_, ?_⟩
  ·exact Int.le_ediv_of_mul_le hp hg
  ·exact Int.ediv_lt_of_lt_mul hp hl
  ·rw [Int.pow_zero, Int.mul_one, Int.add_mul, Int.one_mul]; omega
  ·rw [Int.pow_zero, Int.mul_one, decide_eq_true_iff]
   constructor
   ·intro h3 h4; omega
   ·intro h3 h4; exact h3 (by omega)
theorem Fit.pos {v e q E : Int} {c : Bool} (h : Fit v e q E c) : 0 < v := by
 obtain ⟨q0, q1, s, t, he, h1, h2, hc⟩ := h
 have := Int.mul_pos (show 0 < q by omega) (p2_pos t)
 exact pos_of_p s (by omega)
theorem Fit.scale {v e q E : Int} {c : Bool} (j : Nat) (h : Fit v (e + j) q E c) : Fit (v * 2 ^ j) e q E c := by
 obtain ⟨q0, q1, s, t, he, h1, h2, hc⟩ := h
 have r : ∀ x : Int, x * 2 ^ (t + j) = x * 2 ^ t * 2 ^ j := fun x => by rw [p2_add, Int.mul_assoc]
 have r2 : v * 2 ^ j * 2 ^ s = v * 2 ^ s * 2 ^ j := by rw [Int.mul_right_comm]
 refine ⟨q0, q1, s, t + j, by omega, ?_, ?_, ?_⟩
 ·rw [r, r2]; exact mul_le_p j h1
 ·rw [r, r2]; exact mul_lt_p j h2
 ·rw [r, r2, hc]
  constructor
  ·intro h3 h4; exact h3 (eq_of_p j h4)
  ·intro h3 h4; exact h3 (by rw [h4])
theorem rnd_scale {v : Int} (hv : 0 < v) (e : Int) (j : Nat) (neg away : Bool) : rnd neg (v * 2 ^ j) e away = rnd neg v (e + j) away := by
 obtain ⟨q, E, c, h⟩ := fit_ex (e + j) hv
 rw [rnd_fit h, rnd_fit h.scale]
theorem div_fit {v e S : Int} {d : Nat} {c : Bool} (s0 : 9223372036854775808 <= S) (s1 : S < 18446744073709551616) (hs : v / 2 ^ d = S) (hc : c = true ↔ v % 2 ^ d ≠ 0) : Fit v e S (e + d) c := by
 have hp := p2_pos d
 have e1 := Int.mul_ediv_add_emod v (2 ^ d)
 have e2 := Int.emod_nonneg v (b := 2 ^ d) (by omega)
 have e3 := Int.emod_lt_of_pos v hp
 rw [hs, Int.mul_comm] at e1
 refine ⟨s0, s1, 0, d, by omega, by rw [Int.pow_zero, Int.mul_one]; omega, by rw [Int.pow_zero, Int.mul_one, Int.add_mul, Int.one_mul]; omega, ?_⟩
 rw [Int.pow_zero, Int.mul_one, hc]
 constructor
 ·intro h3 h4; omega
 ·intro h3 h4; exact h3 (by omega)
def mayP (n : Nm) : Prop := (n.1 = 0 /\ n.2.1 = false /\ n.2.2.1 = 0 /\ n.2.2.2 = 0) \/ (n.1 = 1 /\ 9223372036854775808 <= n.2.2.1 /\ n.2.2.1 < 18446744073709551616 /\ -1048576 <= n.2.2.2 /\ n.2.2.2 <= 1048576) \/ (n.1 = 2 /\ n.2.2.1 = 0 /\ n.2.2.2 = 0)
theorem bnd_may {neg : Bool} {m e : Int} {away : Bool} (h0 : 9223372036854775808 <= m) (h1 : m < 18446744073709551616) : mayP (bnd neg m e away) := by
 unfold bnd
 split
 ·split
  ·exact .inr (.inr ⟨rfl, rfl, rfl⟩)
  ·exact .inr (.inl ⟨rfl, by simp, by simp, by simp, by simp⟩)
 ·split
  ·split
   ·exact .inr (.inl ⟨rfl, by simp, by simp, by simp, by simp⟩)
   ·exact .inl ⟨rfl, rfl, rfl, rfl⟩
  ·exact .inr (.inl ⟨rfl, h0, h1, by simp only; omega, by simp only; omega⟩)
theorem grw_may {neg : Bool} {m e : Int} {cut away : Bool} (h0 : 9223372036854775808 <= m) (h1 : m < 18446744073709551616) : mayP (grw neg m e cut away) := by
 unfold grw
 split
 ·split
  ·exact bnd_may (by omega) (by omega)
  ·exact bnd_may (by omega) (by omega)
 ·exact bnd_may h0 h1
theorem rnd_may {neg : Bool} {v e : Int} {away : Bool} (hv : 0 < v) : mayP (rnd neg v e away) := by
 obtain ⟨q, E, c, h⟩ := fit_ex e hv
 rw [rnd_fit h]
 exact grw_may h.1 h.2.1
def ngv (n : Nm) : Nm := if n.1 = 0 then (0, false, 0, 0) else (n.1, !n.2.1, n.2.2.1, n.2.2.2)
theorem ngv_may {n : Nm} (h : mayP n) : mayP (ngv n) := by
 obtain ⟨a, b, c, d⟩ := n
 rcases h with ⟨h1, h2, h3, h4⟩ | ⟨h1, h2⟩ | ⟨h1, h2⟩ <;> simp only at h1
 ·subst h1; exact .inl ⟨rfl, rfl, rfl, rfl⟩
 ·subst h1; exact .inr (.inl ⟨rfl, h2⟩)
 ·subst h1; exact .inr (.inr ⟨rfl, h2⟩)
def sg (neg : Bool) (m : Int) : Int := if neg = true then -m else m
def rnz (s e : Int) (up : Bool) : Nm := if s = 0 then (0, false, 0, 0) else rnd (decide (s < 0)) s.natAbs e (up != decide (s < 0))
def exs (a b : Nm) (f : Int) : Int := sg a.2.1 a.2.2.1 * 2 ^ (a.2.2.2 - f).toNat + sg b.2.1 b.2.2.1 * 2 ^ (b.2.2.2 - f).toNat
def addv (a b : Nm) (up : Bool) : Nm :=
 if a.1 = 2 /\ b.1 = 2 /\ a.2.1 ≠ b.2.1 then (2, !up, 0, 0)
 else if a.1 = 2 \/ b.1 = 0 then a
 else if b.1 = 2 \/ a.1 = 0 then b
 else rnz (exs a b (min a.2.2.2 b.2.2.2)) (min a.2.2.2 b.2.2.2) up
def mulv (a b : Nm) (up : Bool) : Nm :=
 if a.1 = 0 \/ b.1 = 0 then (0, false, 0, 0)
 else if a.1 = 2 \/ b.1 = 2 then (2, a.2.1 != b.2.1, 0, 0)
 else rnd (a.2.1 != b.2.1) (a.2.2.1 * b.2.2.1) (a.2.2.2 + b.2.2.2) (up != (a.2.1 != b.2.1))
theorem rnz_may (s e : Int) (up : Bool) : mayP (rnz s e up) := by
 unfold rnz
 split
 ·exact .inl ⟨rfl, rfl, rfl, rfl⟩
 ·exact rnd_may (by omega)
theorem exs_comm (a b : Nm) (f : Int) : exs a b f = exs b a f := by unfold exs; rw [Int.add_comm]
theorem addv_may {a b : Nm} (up : Bool) (ha : mayP a) (hb : mayP b) : mayP (addv a b up) := by
 unfold addv
 split
 ·exact .inr (.inr ⟨rfl, rfl, rfl⟩)
 split
 ·exact ha
 split
 ·exact hb
 exact rnz_may _ _ _
theorem mulv_may {a b : Nm} (up : Bool) (ha : mayP a) (hb : mayP b) : mayP (mulv a b up) := by
 unfold mulv
 split
 ·exact .inl ⟨rfl, rfl, rfl, rfl⟩
 split
 ·exact .inr (.inr ⟨rfl, rfl, rfl⟩)
 rcases ha with ⟨h1, h2, h3, h4⟩ | ⟨h1, h2, h3⟩ | ⟨h1, h2, h3⟩ <;> rcases hb with ⟨g1, g2, g3, g4⟩ | ⟨g1, g2, g3⟩ | ⟨g1, g2, g3⟩ <;> try omega
 exact rnd_may (Int.mul_pos (by omega) (by omega))
theorem low_a {m : Int} {n j : Nat} (h : n + j = 64) : m * 18446744073709551616 / 2 ^ n = m * 2 ^ j /\ m * 18446744073709551616 % 2 ^ n = 0 /\ m / 2 ^ n = m * 2 ^ j / 18446744073709551616 := by
 have hW : (18446744073709551616 : Int) = 2 ^ j * 2 ^ n := by rw [<- p2_add, Nat.add_comm, h, p64]
 have hn := p2_pos n
 have hj := p2_pos j
 rw [hW, <- Int.mul_assoc, Int.mul_ediv_cancel _ (by omega), Int.mul_emod_left]
 refine ⟨rfl, rfl, ?_⟩
 rw [Int.mul_comm (2 ^ j) (2 ^ n), Int.mul_ediv_mul_of_pos_left _ _ hj]
theorem em_mul (m a : Int) {b : Int} (hb : 0 < b) : (m * b) % (a * b) = (m % a) * b := by rw [Int.mul_comm m, Int.mul_comm a, Int.mul_emod_mul_of_pos _ _ hb, Int.mul_comm]
theorem low_b {m : Int} {n i : Nat} (h : n = i + 64) : m * 18446744073709551616 / 2 ^ n = m / 2 ^ i /\ m * 18446744073709551616 % 2 ^ n = (m % 2 ^ i) * 18446744073709551616 := by
 subst h
 rw [p2_add, p64, Int.mul_ediv_mul_of_pos_left _ _ (by decide), em_mul _ _ (by decide)]
 exact ⟨rfl, rfl⟩
theorem low_c {m : Int} {i j : Nat} (h : i + j = 64) : (m * 2 ^ j) % 18446744073709551616 = (m % 2 ^ i) * 2 ^ j := by
 have hW : (18446744073709551616 : Int) = 2 ^ i * 2 ^ j := by rw [<- p2_add, h, p64]
 rw [hW, em_mul _ _ (p2_pos j)]
theorem low_hi {hi lo m : Int} {n : Nat} (m0 : 0 <= m) (l0 : 0 <= lo) (l1 : lo < 18446744073709551616) (h : hi * 18446744073709551616 + lo = m * 18446744073709551616 / 2 ^ n) :
  m / 2 ^ n = hi /\ (m % 2 ^ n ≠ 0 ↔ lo ≠ 0 \/ m * 18446744073709551616 % 2 ^ n ≠ 0) := by
 have hp := p2_pos n
 have a1 : m / 2 ^ n = hi := by
  have : m * 18446744073709551616 / 2 ^ n / 18446744073709551616 = m / 2 ^ n := by
   rw [Int.ediv_ediv_of_nonneg (by omega), Int.mul_ediv_mul_of_pos_left _ _ (by decide)]
  rw [<- this, <- h]
  omega
 have a2 := Int.mul_ediv_add_emod m (2 ^ n)
 have a3 := Int.mul_ediv_add_emod (m * 18446744073709551616) (2 ^ n)
 rw [<- h] at a3
 rw [a1] at a2
 have r0 := Int.emod_nonneg (m * 18446744073709551616) (b := 2 ^ n) (by omega)
 have t0 := Int.emod_nonneg m (b := 2 ^ n) (by omega)
 rw [Int.mul_add, <- Int.mul_assoc] at a3
 have b0 := Int.mul_nonneg (show (0 : Int) <= 2 ^ n by omega) l0
 have key : (m % 2 ^ n) * 18446744073709551616 = 2 ^ n * lo + m * 18446744073709551616 % 2 ^ n := by omega
 refine ⟨a1, ?_⟩
 constructor
 ·intro q1
  by_cases q2 : lo = 0
  ·refine .inr fun q3 => q1 ?_
   rw [q2, q3] at key
   omega
  ·exact .inl q2
 ·rintro (q | q) q1
  ·rw [q1] at key
   have := Int.mul_pos hp (show 0 < lo by omega)
   omega
  ·rw [q1] at key
   omega
theorem sum_div {am bm : Int} {d : Nat} : (am * 2 ^ d + bm) / 2 ^ d = am + bm / 2 ^ d /\ (am * 2 ^ d + bm) % 2 ^ d = bm % 2 ^ d := by
 have hp := p2_pos d
 rw [Int.mul_comm am, Int.add_comm]
 rw [Int.add_mul_ediv_left _ _ (by omega), Int.add_mul_emod_self_left, Int.add_comm]
 exact ⟨rfl, rfl⟩
theorem div_succ (v : Int) (d : Nat) : v / 2 ^ (d + 1) = v / 2 ^ d / 2 /\ (v % 2 ^ (d + 1) ≠ 0 ↔ v / 2 ^ d % 2 ≠ 0 \/ v % 2 ^ d ≠ 0) := by
 have hp := p2_pos d
 have e1 : v / 2 ^ (d + 1) = v / 2 ^ d / 2 := by
  rw [Int.ediv_ediv_of_nonneg (by omega), Int.pow_succ]
 refine ⟨e1, ?_⟩
 have a1 := Int.mul_ediv_add_emod v (2 ^ (d + 1))
 have a2 := Int.mul_ediv_add_emod v (2 ^ d)
 have a3 := Int.mul_ediv_add_emod (v / 2 ^ d) 2
 have r0 := Int.emod_nonneg v (b := 2 ^ d) (by omega)
 have r1 := Int.emod_nonneg (v / 2 ^ d) (b := 2) (by omega)
 rw [e1, p2_succ] at a1
 rw [p2_succ]
 generalize v / 2 ^ d / 2 = Q at *
 generalize v / 2 ^ d % 2 = R at *
 generalize v / 2 ^ d = q at *
 subst a3
 have b := Int.mul_nonneg (show (0 : Int) <= 2 ^ d by omega) r1
 have key : v % (2 * 2 ^ d) = 2 ^ d * R + v % 2 ^ d := by
  rw [Int.mul_add, <- Int.mul_assoc, Int.mul_comm (2 ^ d) 2] at a2
  omega
 rw [key]
 constructor
 ·intro q1
  by_cases q2 : R = 0
  ·refine .inr fun q3 => q1 (by rw [q2, q3]; omega)
  ·exact .inl q2
 ·rintro (q | q) q1
  ·have := Int.mul_pos hp (show 0 < R by omega)
   omega
  ·omega
theorem and_one {x : Int} (h0 : 0 <= x) (h1 : x < 18446744073709551616) : Go.bits .and .u64 x 1 = x % 2 := by
 have := bits_mask .u64 64 (by decide) wraps_u64 1 (by decide) x h0 (by rw [p64]; exact h1)
 simpa using this
theorem and_low {x : Int} (h0 : 0 <= x) (h1 : x < 18446744073709551616) : Go.bits .and .u64 x 4294967295 = x % 4294967296 := by
 have := bits_mask .u64 64 (by decide) wraps_u64 32 (by decide) x h0 (by rw [p64]; exact h1)
 simpa using this
theorem or_top {x : Int} (h0 : 0 <= x) (h1 : x < 9223372036854775808) : Go.bits .or .u64 x 9223372036854775808 = x + 9223372036854775808 := by
 rw [bits_or_comm, bits_join .u64 64 (by decide) wraps_u64 63 9223372036854775808 x (by decide) (by decide) (by decide) h0 (by rw [p63]; exact h1) (by rw [p64]; omega), Int.add_comm]
theorem or_sum {h l : Int} {b j : Nat} (hb : b + j = 64) (h0 : 0 <= h) (h1 : h < 2 ^ j) (l0 : 0 <= l) (l1 : l < 2 ^ b) : Go.bits .or .u64 (h * 2 ^ b) l = h * 2 ^ b + l /\ h * 2 ^ b < 18446744073709551616 := by
 have hp := p2_pos b
 have hW : (18446744073709551616 : Int) = 2 ^ j * 2 ^ b := by rw [<- p2_add, Nat.add_comm, hb, p64]
 have a1 := mul_lt_p b h1
 rw [<- hW] at a1
 have a2 := Int.mul_nonneg h0 (show (0 : Int) <= 2 ^ b by omega)
 have a3 := p2_mono (i := b) (j := 64) (by omega)
 rw [p64] at a3
 refine ⟨?_, a1⟩
 exact bits_join .u64 64 (by decide) wraps_u64 b _ _ a2 (Int.mul_emod_left _ _) (by rw [p64]; exact a1) l0 l1 (by rw [p64]; omega)
theorem norm128 {hi lo : Int} {b j : Nat} (hb : b + j = 64) (h0 : 0 < hi) (hbl : bl hi = j) (l0 : 0 <= lo) (l1 : lo < 18446744073709551616) :
  9223372036854775808 <= hi * 2 ^ b + lo / 2 ^ j /\ hi * 2 ^ b + lo / 2 ^ j < 18446744073709551616 /\ (hi * 2 ^ b + lo / 2 ^ j) * 18446744073709551616 + (lo * 2 ^ b) % 18446744073709551616 = (hi * 18446744073709551616 + lo) * 2 ^ b /\
  (lo * 2 ^ b) % 18446744073709551616 + 2 ^ b <= 18446744073709551616 /\ 0 <= (lo * 2 ^ b) % 18446744073709551616 /\
  Go.bits .or .u64 ((hi * 2 ^ b) % 18446744073709551616) (lo / 2 ^ j) = hi * 2 ^ b + lo / 2 ^ j := by
 have hW : (18446744073709551616 : Int) = 2 ^ j * 2 ^ b := by rw [<- p2_add, Nat.add_comm, hb, p64]
 have pb := p2_pos b
 have pj := p2_pos j
 have g := bl_ge h0
 have l := bl_lt (n := hi) (by omega)
 rw [hbl] at g l
 rw [Int.toNat_natCast] at l
 have hj : 1 <= j := by have := bl_pos h0; omega
 rw [show ((j : Int) - 1).toNat = j - 1 by omega] at g
 have g2 := mul_le_p b g
 rw [<- p2_add, show j - 1 + b = 63 by omega, p63] at g2
 have d0 : 0 <= lo / 2 ^ j := Int.ediv_nonneg l0 (by omega)
 have d1 : lo / 2 ^ j < 2 ^ b := Int.ediv_lt_of_lt_mul pj (by rw [Int.mul_comm, <- hW]; exact l1)
 obtain ⟨o1, o2⟩ := or_sum hb (by omega) l d0 d1
 have m1 : (lo * 2 ^ b) % 18446744073709551616 = (lo % 2 ^ j) * 2 ^ b := by rw [hW, em_mul _ _ pb]
 have r0 := Int.emod_nonneg lo (b := 2 ^ j) (by omega)
 have r1 : lo % 2 ^ j + 1 <= 2 ^ j := Int.emod_lt_of_pos lo pj
 have r2 := mul_le_p b r1
 rw [<- hW, Int.add_mul, Int.one_mul] at r2
 have r3 := Int.mul_nonneg r0 (show (0 : Int) <= 2 ^ b by omega)
 have a5 : (hi + 1) * 2 ^ b <= 2 ^ j * 2 ^ b := mul_le_p b (by omega)
 rw [<- hW, Int.add_mul, Int.one_mul] at a5
 have a6 := Int.mul_nonneg (show 0 <= hi by omega) (show (0 : Int) <= 2 ^ b by omega)
 refine ⟨by omega, by omega, ?_, by rw [m1]; exact r2, by rw [m1]; exact r3, by rw [Int.emod_eq_of_lt a6 o2]; exact o1⟩
 have e1 := Int.mul_ediv_add_emod lo (2 ^ j)
 rw [m1]
 have e2 : lo * 2 ^ b = (lo / 2 ^ j) * 18446744073709551616 + lo % 2 ^ j * 2 ^ b := by
  rw [hW, <- Int.mul_assoc, <- Int.add_mul]
  congr 1
  rw [Int.mul_comm (lo / 2 ^ j)]
  exact e1.symm
 rw [Int.add_mul, Int.add_mul, e2, Int.mul_right_comm hi]
 omega
theorem diff_fit {v e D q E r l : Int} {d b : Nat} {c : Bool} (q0 : 9223372036854775808 <= q) (q1 : q < 18446744073709551616) (hv : v * 18446744073709551616 = D * 2 ^ d + r) (r0 : 0 <= r) (r1 : r < 2 ^ d) (hq : q * 18446744073709551616 + l = D * 2 ^ b) (l0 : 0 <= l) (l1 : l + 2 ^ b <= 18446744073709551616) (he : e - b = E - d) (hc : c = true ↔ l ≠ 0 \/ r ≠ 0) : Fit v e q E c := by
 have pb := p2_pos b
 have pd := p2_pos d
 have a1 : v * 2 ^ b * 18446744073709551616 = q * 2 ^ d * 18446744073709551616 + (l * 2 ^ d + r * 2 ^ b) := by
  have h1 : v * 18446744073709551616 * 2 ^ b = (D * 2 ^ d + r) * 2 ^ b := by rw [hv]
  have h2 : (q * 18446744073709551616 + l) * 2 ^ d = D * 2 ^ b * 2 ^ d := by rw [hq]
  rw [Int.add_mul] at h1 h2
  rw [Int.mul_right_comm D] at h2
  rw [Int.mul_right_comm v, <- h2] at h1
  rw [Int.mul_right_comm q] at h1
  omega
 have a2 := Int.mul_nonneg l0 (show (0 : Int) <= 2 ^ d by omega)
 have a3 := Int.mul_nonneg r0 (show (0 : Int) <= 2 ^ b by omega)
 have a4 : l * 2 ^ d + r * 2 ^ b < 2 ^ d * 18446744073709551616 := by
  have b1 := mul_le_p d l1
  rw [Int.add_mul] at b1
  have b2 : r * 2 ^ b < 2 ^ b * 2 ^ d := by
   have := mul_lt_p b r1
   rw [Int.mul_comm (2 ^ b) (2 ^ d)]
   exact this
  rw [Int.mul_comm (2 ^ d)]
  omega
 refine ⟨q0, q1, b, d, he, ?_, ?_, ?_⟩
 ·refine le_of_p 64 ?_
  rw [p64]
  omega
 ·refine lt_of_p 64 ?_
  rw [p64, Int.add_mul, Int.one_mul, Int.add_mul]
  omega
 ·rw [hc]
  constructor
  ·intro h1 h2
   rw [h2] at a1
   rcases h1 with h1 | h1
   ·have := Int.mul_pos (show 0 < l by omega) pd
    omega
   ·have := Int.mul_pos (show 0 < r by omega) pb
    omega
  ·intro h1
   by_cases z : l = 0
   ·refine .inr fun z2 => h1 ?_
    rw [z, z2] at a1
    refine eq_of_p 64 ?_
    rw [p64]
    omega
   ·exact .inl z
theorem rnz_sg {v : Int} (hv : 0 < v) (n : Bool) (e : Int) (up : Bool) : rnz (sg n v) e up = rnd n v e (up != n) := by
 unfold rnz sg
 cases n
 ·simp only [Bool.false_eq_true, if_false]
  rw [if_neg (by omega), decide_eq_false (by omega), Int.natAbs_of_nonneg (by omega)]
 ·simp only [if_true]
  rw [if_neg (by omega), decide_eq_true (by omega), Int.natAbs_neg, Int.natAbs_of_nonneg (by omega)]
theorem addv_fin {a b : Nm} (ha : a.1 = 1) (hb : b.1 = 1) (up : Bool) : addv a b up = rnz (exs a b (min a.2.2.2 b.2.2.2)) (min a.2.2.2 b.2.2.2) up := by
 unfold addv
 rw [ha, hb]
 simp
theorem mulv_fin {a b : Nm} (ha : a.1 = 1) (hb : b.1 = 1) (up : Bool) : mulv a b up = rnd (a.2.1 != b.2.1) (a.2.2.1 * b.2.2.1) (a.2.2.2 + b.2.2.2) (up != (a.2.1 != b.2.1)) := by
 unfold mulv
 rw [ha, hb]
 simp
theorem shrR {x : Int} {s : Nat} (hs : s <= 64) : Int.fdiv x (2 ^ min (Int.toNat (s : Int)) IntKind.u64.bits) = x / 2 ^ s := by
 rw [Int.toNat_natCast, show IntKind.u64.bits = 64 from rfl, Nat.min_eq_left hs, Int.fdiv_eq_ediv_of_nonneg _ (by have := p2_pos s; omega)]
theorem shlR {x : Int} {s : Nat} (hs : s <= 64) : IntKind.u64.wrap (x * 2 ^ min (Int.toNat (s : Int)) IntKind.u64.bits) = (x * 2 ^ s) % 18446744073709551616 := by
 rw [Int.toNat_natCast, show IntKind.u64.bits = 64 from rfl, Nat.min_eq_left hs, wrap_u64]
theorem shr1 (x : Int) : Int.fdiv x (2 ^ min (Int.toNat 1) IntKind.u64.bits) = x / 2 := (shrR (s := 1) (by decide)).trans (by rw [Int.pow_one])
theorem shr8 (x : Int) : Int.fdiv x (2 ^ min (Int.toNat 8) IntKind.u64.bits) = x / 256 := shrR (s := 8) (by decide)
theorem shr16 (x : Int) : Int.fdiv x (2 ^ min (Int.toNat 16) IntKind.u64.bits) = x / 65536 := shrR (s := 16) (by decide)
theorem shr32 (x : Int) : Int.fdiv x (2 ^ min (Int.toNat 32) IntKind.u64.bits) = x / 4294967296 := shrR (s := 32) (by decide)
theorem shr63 (x : Int) : Int.fdiv x (2 ^ min (Int.toNat 63) IntKind.u64.bits) = x / 9223372036854775808 := shrR (s := 63) (by decide)
theorem shl1 (x : Int) : IntKind.u64.wrap (x * 2 ^ min (Int.toNat 1) IntKind.u64.bits) = (x * 2) % 18446744073709551616 := (shlR (s := 1) (by decide)).trans (by rw [Int.pow_one])
theorem orR (a b : Int) : IntKind.u64.wrap (BitVec.toNat (BitVec.ofInt IntKind.u64.bits a ||| BitVec.ofInt IntKind.u64.bits b)) = Go.bits .or .u64 a b := rfl
theorem andR (a b : Int) : IntKind.u64.wrap (BitVec.toNat (BitVec.ofInt IntKind.u64.bits a &&& BitVec.ofInt IntKind.u64.bits b)) = Go.bits .and .u64 a b := rfl
theorem w64 {x : Int} (h : -9223372036854775808 <= x) (h' : x < 9223372036854775808) : IntKind.i64.wrap x = x := wrap_small h (by omega)
theorem arith_fair_eq (k : Nat) (n : Nm) : arith_fair k n = some (fair n, ()) := by
 simp only [arith_fair, num_May_eq, Option.bind_some, fair]
 cases may n <;> rfl
theorem mayP_of {n : Nm} (h : may n = true) (h1 : n.2.2.1 < 18446744073709551616) : mayP n := by
 rcases may_cases h with rfl | h | h
 ·exact .inl ⟨rfl, rfl, rfl, rfl⟩
 ·exact .inr (.inl ⟨h.1, h.2.1, h1, h.2.2.1, h.2.2.2⟩)
 ·exact .inr (.inr h)
theorem may_of {n : Nm} (h : mayP n) : may n = true := by
 obtain ⟨a, b, c, d⟩ := n
 rcases h with ⟨h1, h2, h3, h4⟩ | ⟨h1, h2, h3, h4, h5⟩ | ⟨h1, h2, h3⟩ <;> simp only at h1 h2 h3
 ·simp only at h4; subst h1 h2 h3 h4; rfl
 ·simp only at h4 h5; subst h1; simp [may, h2, h4, h5]
 ·subst h1 h2 h3; simp [may]
theorem fair_wf {n : Nm} (h : n.2.2.1 < 18446744073709551616) : mayP (fair n) := by
 refine mayP_of (may_fair n) ?_
 unfold fair
 split
 ·exact h
 ·decide
theorem fairP {n : Nm} (h : mayP n) : fair n = n := fair_may (may_of h)
theorem neg_eq {n : Nm} (h : mayP n) : neg n = ngv n := by
 obtain ⟨a, b, c, d⟩ := n
 unfold neg ngv
 rw [fairP h]
 rcases h with ⟨h1, h2, h3, h4⟩ | ⟨h1, _⟩ | ⟨h1, _⟩ <;> simp only at h1
 ·simp only at h2 h3 h4; subst h1 h2 h3 h4; rfl
 ·subst h1; rfl
 ·subst h1; rfl
theorem bnd_eq (k : Nat) (neg : Bool) (m e : Int) (away : Bool) : num_Bound k neg m e away = some (bnd neg m e away, ()) := by
 simp only [num_Bound, num_Inf_eq, num_huge, num_tiny, Option.bind_some, bnd, cond_eq_ite, decide_eq_true_eq]
 by_cases h : e > 1048576
 ·cases away <;> simp [h]
 ·by_cases h2 : e < -1048576
  ·cases away <;> simp [h, h2]
  ·simp [h, h2]
theorem grw_eq (k : Nat) (neg : Bool) (m e : Int) (cut away : Bool) (m0 : 9223372036854775808 <= m) (m1 : m < 18446744073709551616) (e0 : -9223372036854775808 <= e) (e1 : e < 9223372036854775807) : num_Grow k neg m e cut away = some (grw neg m e cut away, ()) := by
 simp only [num_Grow, bnd_eq, Option.bind_some, grw]
 cases cut
 ·simp
 ·cases away
  ·simp
  ·by_cases h : m + 1 = 18446744073709551616
   ·have h2 : IntKind.u64.wrap (m + 1) = 0 := by rw [h]; rfl
    rw [h2, w64 (by omega) (by omega)]
    simp [h]
   ·have h2 : IntKind.u64.wrap (m + 1) = m + 1 := u64w (by omega) (by omega)
    have h3 : ¬ m + 1 = 0 := by omega
    rw [h2, beq_f h3]
    simp [h]
theorem lower_eq (k : Nat) {m : Int} {n : Nat} (m0 : 9223372036854775808 <= m) (m1 : m < 18446744073709551616) (hn : n <= 4194304) :
  ∃ (hi lo : Int) (cut : Bool), arith_lower k m (n : Int) = some ((hi, lo, cut), ()) /\ 0 <= hi /\ hi < 18446744073709551616 /\ 0 <= lo /\ lo < 18446744073709551616 /\ hi * 18446744073709551616 + lo = m * 18446744073709551616 / 2 ^ n /\ (cut = true ↔ m * 18446744073709551616 % 2 ^ n ≠ 0) := by
 have hp := p2_pos n
 have d0 : ∀ i : Nat, 0 <= m / 2 ^ i /\ m / 2 ^ i <= m := fun i => by
  have := p2_pos i
  exact ⟨Int.ediv_nonneg (by omega) (by omega), Int.ediv_le_self _ (by omega)⟩
 simp only [arith_lower, cond_eq_ite, decide_eq_true_eq]
 by_cases h : n < 64
 ·obtain ⟨j, hj⟩ : ∃ j, n + j = 64 := ⟨64 - n, by omega⟩
  obtain ⟨a1, a2, a3⟩ := low_a (m := m) hj
  have w : IntKind.i64.wrap (64 - (n : Int)) = (j : Int) := by rw [w64 (by omega) (by omega)]; omega
  rw [if_pos (show (n : Int) < 64 by omega), if_neg (show ¬ (n : Int) < 0 by omega), w, if_neg (show ¬ (j : Int) < 0 by omega), shrR (by omega), shlR (by omega), a1, a2, a3]
  refine ⟨_, _, _, rfl, ?_, ?_, Int.emod_nonneg _ (by decide), Int.emod_lt_of_pos _ (by decide), ?_, ?_⟩
  ·rw [<- a3]; exact (d0 n).1
  ·rw [<- a3]; have := (d0 n).2; omega
  ·have := Int.mul_ediv_add_emod (m * 2 ^ j) 18446744073709551616
   omega
  ·simp
 ·rw [if_neg (show ¬ (n : Int) < 64 by omega)]
  by_cases h2 : n < 128
  ·obtain ⟨i, hi⟩ : ∃ i, n = i + 64 := ⟨n - 64, by omega⟩
   obtain ⟨j, hj⟩ : ∃ j, i + j = 64 := ⟨64 - i, by omega⟩
   obtain ⟨b1, b2⟩ := low_b (m := m) hi
   have w : IntKind.i64.wrap ((n : Int) - 64) = (i : Int) := by rw [w64 (by omega) (by omega)]; omega
   have w2 : IntKind.i64.wrap (64 - (i : Int)) = (j : Int) := by rw [w64 (by omega) (by omega)]; omega
   rw [if_pos (show (n : Int) < 128 by omega), w, if_neg (show ¬ (i : Int) < 0 by omega), w2, if_neg (show ¬ (j : Int) < 0 by omega), shrR (by omega), shlR (by omega), b1, b2, low_c hj]
   refine ⟨_, _, _, rfl, by decide, by decide, (d0 i).1, by have := (d0 i).2; omega, by omega, ?_⟩
   have hpj := p2_pos j
   have hm := Int.emod_nonneg m (b := 2 ^ i) (by have := p2_pos i; omega)
   simp only [bne_iff_ne, ne_eq]
   constructor
   ·intro q1 q2; exact q1 (by rw [show m % 2 ^ i = 0 by omega]; omega)
   ·intro q1 q2
    have := Int.mul_eq_zero.1 q2
    rcases this with h3 | h3
    ·exact q1 (by rw [h3]; rfl)
    ·omega
  ·rw [if_neg (show ¬ (n : Int) < 128 by omega)]
   obtain ⟨i, rfl⟩ : ∃ i, n = 128 + i := ⟨n - 128, by omega⟩
   have hb := p2_mono (i := 128) (j := 128 + i) (by omega)
   have e128 : (2 : Int) ^ 128 = 340282366920938463463374607431768211456 := by decide
   have l1 : m * 18446744073709551616 < 2 ^ (128 + i) := by omega
   refine ⟨0, 0, true, rfl, by decide, by decide, by decide, by decide, ?_, ?_⟩
   ·rw [Int.ediv_eq_zero_of_lt (by omega) l1]; rfl
   ·rw [Int.emod_eq_of_lt (by omega) l1]
    simp
    omega
theorem tab_fin : ∀ i : Fin 256, (bytes0[i.val]?).map (fun y => (y.toNat : Int)) = some (bl (i.val : Int)) := by decide +kernel
theorem tab_get {z : Int} (h0 : 0 <= z) (h1 : z < 256) : ∃ y : UInt8, bytes0[Int.toNat z]? = some y /\ (y.toNat : Int) = bl z := by
 obtain ⟨n, rfl⟩ := Int.eq_ofNat_of_zero_le h0
 have := tab_fin ⟨n, by omega⟩
 rw [Int.toNat_natCast]
 cases hq : bytes0[n]? with
 | none => simp only at this; rw [hq] at this; cases this
 | some y =>
  simp only at this
  rw [hq] at this
  exact ⟨y, rfl, by simpa using this⟩
theorem u8w {z : Int} (h0 : 0 <= z) (h1 : z < 256) : IntKind.u8.wrap z = z := by
 simp only [IntKind.wrap, IntKind.bits, IntKind.signed]
 simp
 omega
theorem len64 (k : Nat) {x : Int} (h0 : 0 <= x) (h1 : x < 18446744073709551616) : bits_Len64 k x = some (bl x, ()) := by
 have b8 : ∀ y : Int, 0 <= y -> y < 256 -> 0 <= bl y /\ bl y <= 8 := fun y _ hy => ⟨bl_nonneg y, bl_le (m := 8) hy⟩
 simp only [bits_Len64, shr8, shr16, shr32, cond_eq_ite, decide_eq_true_eq]
 have look : ∀ (z c : Int) (j : Nat), 0 <= z -> z < 256 -> c = j -> j <= 56 -> x / 2 ^ j = z -> (j = 0 \/ 0 < z) ->
   (if 0 <= IntKind.u8.wrap z then (bytes0[Int.toNat (IntKind.u8.wrap z)]?).bind fun y1 => (some (IntKind.i64.wrap (c + IntKind.i64.wrap (y1.toNat : Int)), ()) : Option (HL [(.int .i64)])) else none) = some (bl x, ()) := by
  intro z c j z0 z1 hc hj hx hp
  obtain ⟨y, hy, e⟩ := tab_get z0 z1
  have hb := b8 z z0 z1
  rw [u8w z0 z1, if_pos z0, hy, Option.bind_some, e, w64 (x := bl z) (by omega) (by omega), w64 (by omega) (by omega), hc]
  have ee : (j : Int) + bl z = bl x := by
   rcases hp with rfl | hp
   ·rw [Int.pow_zero, Int.ediv_one] at hx; rw [hx]; simp
   ·rw [bl_shift (x := x) j (by rw [hx]; exact hp), hx]
  rw [ee]
 by_cases c1 : x >= 4294967296
 ·rw [if_pos c1]
  by_cases c2 : x / 4294967296 >= 65536
  ·rw [if_pos c2]
   by_cases c3 : x / 4294967296 / 65536 >= 256
   ·rw [if_pos c3]; exact look _ _ 56 (by omega) (by omega) (by decide) (by omega) (by omega) (.inr (by omega))
   ·rw [if_neg c3]; exact look _ _ 48 (by omega) (by omega) (by decide) (by omega) (by omega) (.inr (by omega))
  ·rw [if_neg c2]
   by_cases c3 : x / 4294967296 >= 256
   ·rw [if_pos c3]; exact look _ _ 40 (by omega) (by omega) (by decide) (by omega) (by omega) (.inr (by omega))
   ·rw [if_neg c3]; exact look _ _ 32 (by omega) (by omega) (by decide) (by omega) (by omega) (.inr (by omega))
 ·rw [if_neg c1]
  by_cases c2 : x >= 65536
  ·rw [if_pos c2]
   by_cases c3 : x / 65536 >= 256
   ·rw [if_pos c3]; exact look _ _ 24 (by omega) (by omega) (by decide) (by omega) (by omega) (.inr (by omega))
   ·rw [if_neg c3]; exact look _ _ 16 (by omega) (by omega) (by decide) (by omega) (by omega) (.inr (by omega))
  ·rw [if_neg c2]
   by_cases c3 : x >= 256
   ·rw [if_pos c3]; exact look _ _ 8 (by omega) (by omega) (by decide) (by omega) (by omega) (.inr (by omega))
   ·rw [if_neg c3]; exact look _ _ 0 (by omega) (by omega) (by decide) (by omega) (by omega) (.inl rfl)
theorem lz64 (k : Nat) {x : Int} (h0 : 0 <= x) (h1 : x < 18446744073709551616) : bits_LeadingZeros64 k x = some (64 - bl x, ()) := by
 have e3 := bl_le (n := x) (m := 64) (by rw [p64]; exact h1)
 have e4 := bl_nonneg x
 simp only [bits_LeadingZeros64]
 rw [len64 k h0 h1, Option.bind_some, w64 (by omega) (by omega)]
theorem add64R {x y : Int} (x0 : 0 <= x) (y0 : 0 <= y) : add64F (x, y, 0, ()) = some ((x + y) % 18446744073709551616, (x + y) / 18446744073709551616, ()) := by
 simp only [add64F]
 rw [if_pos ⟨x0, y0, by decide, by decide⟩, Int.add_zero]
theorem plus_eq (k : Nat) {am ae bm be : Int} (q1 q2 : Int) (an bn up : Bool) {d : Nat} (a0 : 9223372036854775808 <= am) (a1 : am < 18446744073709551616) (b0 : 9223372036854775808 <= bm) (b1 : bm < 18446744073709551616) (e0 : -1048576 <= be) (e1 : ae <= 1048576) (hd : ae = be + d) :
  arith_plus k (q1, an, am, ae) (q2, bn, bm, be) up = some (rnd an (am * 2 ^ d + bm) be (up != an), ()) := by
 obtain ⟨hi, lo, cut, hl, i0, i1, l0, l1, hv, hc⟩ := lower_eq k b0 b1 (n := d) (by omega)
 obtain ⟨hh, hr⟩ := low_hi (by omega) l0 l1 hv
 obtain ⟨s1, s2⟩ := sum_div (am := am) (bm := bm) (d := d)
 obtain ⟨s3, s4⟩ := div_succ (am * 2 ^ d + bm) d
 rw [hh] at s1
 rw [s1] at s3 s4
 rw [<- hc] at hr
 rw [s2, hr] at s4
 have e : IntKind.i64.wrap (ae - be) = (d : Int) := by rw [w64 (by omega) (by omega)]; omega
 have ne : (!(up == an)) = (up != an) := rfl
 simp only [arith_plus, e, hl, Option.bind_some, add64R (show 0 <= am by omega) i0, shr1, orR, andR, ne]
 by_cases c : am + hi < 18446744073709551616
 ·have m1 : (am + hi) % 18446744073709551616 = am + hi := by omega
  have m2 : (am + hi) / 18446744073709551616 = 0 := by omega
  have f : ∀ cc : Bool, (cc = true ↔ bm % 2 ^ d ≠ 0) -> num_Grow k an (am + hi) ae cc (up != an) = some (rnd an (am * 2 ^ d + bm) be (up != an), ()) := fun cc h => by
   rw [grw_eq k _ _ _ _ _ (by omega) c (by omega) (by omega), rnd_fit (div_fit (c := cc) (by omega) c s1 (by rw [s2]; exact h)), hd]
  rw [m1, m2]
  cases cut
  ·have := f (lo != 0) (by rw [hr]; simp)
   simp only [cond_false, this, Option.bind_some, bne_self_eq_false]
  ·have := f true (by rw [hr]; simp)
   simp only [cond_true, cond_false, this, Option.bind_some, bne_self_eq_false]
 ·have m1 : (am + hi) % 18446744073709551616 = am + hi - 18446744073709551616 := by omega
  have m2 : (am + hi) / 18446744073709551616 = 1 := by omega
  have w : IntKind.i64.wrap (ae + 1) = ae + 1 := w64 (by omega) (by omega)
  have o : Go.bits .or .u64 ((am + hi - 18446744073709551616) / 2) 9223372036854775808 = (am + hi) / 2 := by
   rw [or_top (by omega) (by omega)]; omega
  have f : ∀ cc : Bool, (cc = true ↔ (am * 2 ^ d + bm) % 2 ^ (d + 1) ≠ 0) -> num_Grow k an ((am + hi) / 2) (ae + 1) cc (up != an) = some (rnd an (am * 2 ^ d + bm) be (up != an), ()) := fun cc h => by
   rw [grw_eq k _ _ _ _ _ (by omega) (by omega) (by omega) (by omega), rnd_fit (div_fit (c := cc) (by omega) (by omega) s3 h), hd, show be + (d : Int) + 1 = be + ((d + 1 : Nat) : Int) by omega]
  have n1 : ((1 : Int) != 0) = true := rfl
  have a1' : Go.bits .and .u64 (am + hi - 18446744073709551616) 1 = (am + hi - 18446744073709551616) % 2 := and_one (by omega) (by omega)
  rw [m1, m2]
  simp only [o, w, a1']
  cases cut
  ·by_cases z : lo = 0
   ·have := f ((am + hi - 18446744073709551616) % 2 != 0) (by rw [s4]; simp [z]; omega)
    have z2 : (lo != 0) = false := by simp [z]
    simp only [cond_false, n1, cond_true, z2]
    erw [this]
    rfl
   ·have := f true (by rw [s4]; simp [z])
    have z2 : (lo != 0) = true := by simp [z]
    simp only [cond_false, n1, cond_true, z2]
    erw [this]
    rfl
  ·have := f true (by rw [s4]; simp)
   simp only [cond_true, n1]
   erw [this]
   rfl
theorem sub64R {x y b : Int} (x0 : 0 <= x) (y0 : 0 <= y) (y1 : y < 18446744073709551616) (b0 : 0 <= b) (b1 : b <= 1) : sub64F (x, y, b, ()) = some ((x - y - b) % 18446744073709551616, (if x < y + b then 1 else 0), ()) := by
 simp only [sub64F]
 rw [if_pos ⟨x0, y0, y1, b0, b1⟩]
theorem minus_tail (k : Nat) (an away cut : Bool) {v' e' x1 x0 E r : Int} {d : Nat} (p0 : 0 < x1) (p1 : x1 < 18446744073709551616) (p2 : 0 <= x0) (p3 : x0 < 18446744073709551616) (pv : v' * 18446744073709551616 = (x1 * 18446744073709551616 + x0) * 2 ^ d + r) (hr0 : 0 <= r) (hr1 : r < 2 ^ d) (hcr : cut = true ↔ r ≠ 0) (pe : E = e' + d) (pE0 : -4194304 <= E) (pE1 : E <= 4194304) :
  (bits_LeadingZeros64 k x1).bind (fun r4 =>
   (bif (decide (r4.1 > 0)) then
   if r4.1 < 0 then none else
   if (IntKind.i64.wrap (64 - r4.1)) < 0 then none else
   if r4.1 < 0 then none else
   bif cut then
    (num_Grow k an (IntKind.u64.wrap (BitVec.toNat (BitVec.ofInt IntKind.u64.bits (IntKind.u64.wrap (x1 * 2 ^ min (Int.toNat r4.1) IntKind.u64.bits)) ||| BitVec.ofInt IntKind.u64.bits (Int.fdiv x0 (2 ^ min (Int.toNat (IntKind.i64.wrap (64 - r4.1))) IntKind.u64.bits))))) (IntKind.i64.wrap (E - r4.1)) true away).bind fun r10 =>
    some (r10.1, ())
   else
    (num_Grow k an (IntKind.u64.wrap (BitVec.toNat (BitVec.ofInt IntKind.u64.bits (IntKind.u64.wrap (x1 * 2 ^ min (Int.toNat r4.1) IntKind.u64.bits)) ||| BitVec.ofInt IntKind.u64.bits (Int.fdiv x0 (2 ^ min (Int.toNat (IntKind.i64.wrap (64 - r4.1))) IntKind.u64.bits))))) (IntKind.i64.wrap (E - r4.1)) ((IntKind.u64.wrap (x0 * 2 ^ min (Int.toNat r4.1) IntKind.u64.bits)) != 0) away).bind fun r11 =>
    some (r11.1, ())
   else
   bif cut then
    (num_Grow k an x1 E true away).bind fun r12 =>
    some (r12.1, ())
   else
    (num_Grow k an x1 E (x0 != 0) away).bind fun r13 =>
    some (r13.1, ()) : Option (HL [TNm]))) = some (rnd an v' e' away, ()) := by
 have b0 := bl_pos p0
 have b1 := bl_le (n := x1) (m := 64) (by rw [p64]; exact p1)
 obtain ⟨j, hj⟩ : ∃ j : Nat, bl x1 = j := ⟨(bl x1).toNat, by omega⟩
 obtain ⟨b, hb⟩ : ∃ b : Nat, b + j = 64 := ⟨64 - j, by omega⟩
 obtain ⟨n1, n2, n3, n4, n5, n6⟩ := norm128 hb p0 hj p2 p3
 have f : ∀ cc : Bool, (cc = true ↔ (x0 * 2 ^ b) % 18446744073709551616 ≠ 0 \/ r ≠ 0) -> num_Grow k an (x1 * 2 ^ b + x0 / 2 ^ j) (E - b) cc away = some (rnd an v' e' away, ()) := fun cc h => by
  rw [grw_eq k _ _ _ _ _ n1 n2 (by omega) (by omega), rnd_fit (diff_fit n1 n2 pv hr0 hr1 n3 n5 n4 (show e' - b = (E - b) - d by omega) h)]
 rw [lz64 k (by omega) p1, Option.bind_some, hj, show (64 : Int) - (j : Int) = (b : Int) by omega]
 have s3 : IntKind.i64.wrap (64 - (b : Int)) = (j : Int) := by rw [w64 (by omega) (by omega)]; omega
 have s5 : IntKind.i64.wrap (E - (b : Int)) = E - b := w64 (by omega) (by omega)
 have s1 : IntKind.u64.wrap (x1 * 2 ^ min (Int.toNat (b : Int)) IntKind.u64.bits) = (x1 * 2 ^ b) % 18446744073709551616 := shlR (by omega)
 have s2 : IntKind.u64.wrap (x0 * 2 ^ min (Int.toNat (b : Int)) IntKind.u64.bits) = (x0 * 2 ^ b) % 18446744073709551616 := shlR (by omega)
 have s4 : Int.fdiv x0 (2 ^ min (Int.toNat (j : Int)) IntKind.u64.bits) = x0 / 2 ^ j := shrR (by omega)
 simp only [s3, s5, orR, s1, s2, s4, n6]
 by_cases z : (b : Int) > 0
 ·rw [cond_t z, if_neg (show ¬ (b : Int) < 0 by omega), if_neg (show ¬ (j : Int) < 0 by omega), if_neg (show ¬ (b : Int) < 0 by omega)]
  cases hcut : cut
  ·have := f ((x0 * 2 ^ b) % 18446744073709551616 != 0) (by rw [<- hcr, hcut]; simp)
   rw [cond_false]
   erw [this]; rfl
  ·have := f true (by rw [<- hcr, hcut]; simp)
   rw [cond_true, this]; rfl
 ·have zb : b = 0 := by omega
  subst zb
  have zj : j = 64 := by omega
  subst zj
  have e1 : x0 / 2 ^ 64 = 0 := by rw [p64]; omega
  rw [e1, Int.pow_zero, Int.mul_one, Int.mul_one, Int.add_zero, Int.emod_eq_of_lt p2 p3, show E - ((0 : Nat) : Int) = E by omega] at f
  rw [cond_f z]
  cases hcut : cut
  ·have := f (x0 != 0) (by rw [<- hcr, hcut]; simp)
   rw [cond_false]
   erw [this]; rfl
  ·have := f true (by rw [<- hcr, hcut]; simp)
   rw [cond_true, this]; rfl
theorem minus_eq (k : Nat) {am ae bm be : Int} (q1 q2 : Int) (an bn up : Bool) {d : Nat} (a0 : 9223372036854775808 <= am) (a1 : am < 18446744073709551616) (b0 : 9223372036854775808 <= bm) (b1 : bm < 18446744073709551616) (e0 : -1048576 <= be) (e1 : ae <= 1048576) (hd : ae = be + d) (hv : 0 < am * 2 ^ d - bm) :
  arith_minus k (q1, an, am, ae) (q2, bn, bm, be) up = some (rnd an (am * 2 ^ d - bm) be (up != an), ()) := by
 obtain ⟨hi, lo, cut, hl, i0, i1, l0, l1, hX, hc⟩ := lower_eq k b0 b1 (n := d) (by omega)
 obtain ⟨hh, -⟩ := low_hi (by omega) l0 l1 hX
 have pd := p2_pos d
 have x1 := Int.mul_ediv_add_emod (bm * 18446744073709551616) (2 ^ d)
 have x2 := Int.emod_nonneg (bm * 18446744073709551616) (b := 2 ^ d) (by omega)
 have x3 := Int.emod_lt_of_pos (bm * 18446744073709551616) pd
 rw [<- hX] at x1
 have e : IntKind.i64.wrap (ae - be) = (d : Int) := by rw [w64 (by omega) (by omega)]; omega
 obtain ⟨D, r, hD, hr0, hr1, hDv, hcr⟩ : ∃ D r : Int, D = am * 18446744073709551616 - (hi * 18446744073709551616 + lo) - (if cut = true then 1 else 0) /\ 0 <= r /\ r < 2 ^ d /\ (am * 2 ^ d - bm) * 18446744073709551616 = D * 2 ^ d + r /\ (cut = true ↔ r ≠ 0) := by
  have y1 : (am * 2 ^ d - bm) * 18446744073709551616 = (am * 18446744073709551616 - (hi * 18446744073709551616 + lo)) * 2 ^ d - bm * 18446744073709551616 % 2 ^ d := by
   rw [Int.sub_mul, Int.sub_mul, Int.mul_right_comm am, Int.mul_comm _ (2 ^ d)] at *
   have : 2 ^ d * (hi * 18446744073709551616 + lo) = (hi * 18446744073709551616 + lo) * 2 ^ d := Int.mul_comm _ _
   omega
  cases hcut : cut
  ·have z : bm * 18446744073709551616 % 2 ^ d = 0 := by
    by_cases z : bm * 18446744073709551616 % 2 ^ d = 0
    ·exact z
    ·rw [hc.2 z] at hcut; exact absurd hcut (by decide)
   refine ⟨_, 0, rfl, by decide, pd, ?_, by simp⟩
   rw [y1, z]
   simp
  ·have z := hc.1 hcut
   refine ⟨_, 2 ^ d - bm * 18446744073709551616 % 2 ^ d, rfl, by omega, by omega, ?_, ?_⟩
   ·rw [y1, if_pos rfl, Int.sub_mul (am * 18446744073709551616 - (hi * 18446744073709551616 + lo)) 1, Int.one_mul]
    omega
   ·simp; omega
 have D0 : 0 <= D := by
  have := Int.mul_pos hv (show (0 : Int) < 18446744073709551616 by decide)
  by_cases z : 0 <= D
  ·exact z
  ·have := mul_le_p d (show D <= -1 by omega)
   omega
 have D1 : D < 340282366920938463463374607431768211456 := by
  split at hD <;> omega
 obtain ⟨h1, h2, hw1, hw2⟩ : ∃ h1 h2 : Int, h1 = D / 18446744073709551616 /\ h2 = D % 18446744073709551616 := ⟨_, _, rfl, rfl⟩
 have g0 : 0 <= h1 /\ h1 < 18446744073709551616 := by omega
 have g1 : 0 <= h2 /\ h2 < 18446744073709551616 := by omega
 have gD : D = h1 * 18446744073709551616 + h2 := by omega
 have ne : (!(up == an)) = (up != an) := rfl
 have low : h1 = 0 -> 0 < h2 /\ r = 0 := by
  intro z
  have Dpos : 0 < h2 := by
   by_cases z2 : 0 < h2
   ·exact z2
   ·have : D = 0 := by omega
    rw [this, Int.zero_mul] at hDv
    have vW : 2 ^ d <= (am * 2 ^ d - bm) * 18446744073709551616 := by
     by_cases z : d <= 64
     ·have := p2_mono z
      rw [p64] at this
      omega
     ·have h1 := p2_mono (i := 64) (j := d) (by omega)
      rw [p64] at h1
      have h2 := mul_le_p d a0
      omega
    omega
  refine ⟨Dpos, ?_⟩
  have t1 : (am * 2 ^ d - bm) * 18446744073709551616 < 18446744073709551616 * 2 ^ d := by
   have := mul_le_p d (show D + 1 <= 18446744073709551616 by omega)
   rw [Int.add_mul, Int.one_mul] at this
   omega
  have t2 : (9223372036854775808 - 1) * 2 ^ d <= (am - 1) * 2 ^ d := mul_le_p d (by omega)
  rw [Int.sub_mul] at t2
  rw [Int.sub_mul am] at t2
  have t3 : d < 2 := by
   by_cases z3 : d < 2
   ·exact z3
   ·have := p2_mono (i := 2) (j := d) (by omega)
    omega
  by_cases z4 : r = 0
  ·exact z4
  ·have t4 := hcr.2 z4
   have t5 := hc.1 t4
   have : d = 0 \/ d = 1 := by omega
   rcases this with rfl | rfl <;> omega
 have wE : IntKind.i64.wrap (ae - 64) = ae - 64 := w64 (by omega) (by omega)
 have T1 : 0 < h1 -> _ := fun p => minus_tail k an (up != an) cut (v' := am * 2 ^ d - bm) (e' := be) (E := ae) (r := r) (d := d) p g0.2 g1.1 g1.2 (by rw [hDv, gD]) hr0 hr1 hcr hd (by omega) (by omega)
 have T2 : h1 = 0 -> _ := fun z => minus_tail k an (up != an) cut (v' := (am * 2 ^ d - bm) * 2 ^ 64) (e' := be - 64) (x0 := 0) (E := ae - 64) (r := r) (d := d) (low z).1 g1.2 (by decide) (by decide) (by rw [p64, hDv, (low z).2, gD, z]; simp [Int.mul_right_comm]) hr0 hr1 hcr (by omega) (by omega) (by omega)
 rw [rnd_scale hv, show be - 64 + ((64 : Nat) : Int) = be by omega] at T2
 have fin : ∀ (o : Option (HL [.int .u64, .int .u64])) (c2 : Int), o = some (h2, c2, ()) -> sub64F (am, hi, c2, ()) = some (h1, (if am < hi + c2 then 1 else 0), ()) -> True := fun _ _ _ _ => trivial
 cases hcut : cut
 ·rw [hcut] at hD hl T1 T2
  simp only [Bool.false_eq_true, if_false] at hD
  obtain ⟨c2, hc2, c20, c21⟩ : ∃ c2 : Int, c2 = (if 0 < lo + 0 then 1 else 0) /\ 0 <= c2 /\ c2 <= 1 := ⟨_, rfl, by split <;> decide, by split <;> decide⟩
  have S1 : sub64F (0, lo, 0, ()) = some (h2, c2, ()) := by
   rw [sub64R (by decide) l0 l1 (by decide) (by decide), <- hc2]
   congr 2; omega
  have S2 : sub64F (am, hi, c2, ()) = some (h1, (if am < hi + c2 then 1 else 0), ()) := by
   rw [sub64R (by omega) i0 i1 c20 c21]
   congr 2
   split at hc2 <;> omega
  simp only [arith_minus, e, hl, Option.bind_some, cond_false, S1, S2, ne]
  by_cases z : h1 = 0
  ·rw [beq_t z, cond_true, <- T2 z, wE]
   rfl
  ·rw [beq_f z, cond_false, <- T1 (by omega)]
   rfl
 ·rw [hcut] at hD hl T1 T2
  simp only [if_true] at hD
  obtain ⟨c2, hc2, c20, c21⟩ : ∃ c2 : Int, c2 = (if 0 < lo + 1 then 1 else 0) /\ 0 <= c2 /\ c2 <= 1 := ⟨_, rfl, by split <;> decide, by split <;> decide⟩
  have S1 : sub64F (0, lo, 1, ()) = some (h2, c2, ()) := by
   rw [sub64R (by decide) l0 l1 (by decide) (by decide), <- hc2]
   congr 2; omega
  have S2 : sub64F (am, hi, c2, ()) = some (h1, (if am < hi + c2 then 1 else 0), ()) := by
   rw [sub64R (by omega) i0 i1 c20 c21]
   congr 2
   split at hc2 <;> omega
  simp only [arith_minus, e, hl, Option.bind_some, cond_true, S1, S2, ne]
  by_cases z : h1 = 0
  ·rw [beq_t z, cond_true, <- T2 z, wE]
   rfl
  ·rw [beq_f z, cond_false, <- T1 (by omega)]
   rfl
theorem add3 (k : Nat) {am ae bm be : Int} (an bn up : Bool) (a0 : 9223372036854775808 <= am) (a1 : am < 18446744073709551616) (b0 : 9223372036854775808 <= bm) (b1 : bm < 18446744073709551616) (e0 : -1048576 <= be) (e1 : ae <= 1048576) (hle : be < ae \/ be = ae /\ bm <= am) :
  (bif (an == bn) then (arith_plus k (1, an, am, ae) (1, bn, bm, be) up).bind fun r => some (r.1, ())
   else bif (ae == be) then bif (am == bm) then some ((0, false, 0, 0), ()) else (arith_minus k (1, an, am, ae) (1, bn, bm, be) up).bind fun r => some (r.1, ())
   else (arith_minus k (1, an, am, ae) (1, bn, bm, be) up).bind fun r => some (r.1, ()) : Option (HL [TNm])) = some (rnz (exs (1, an, am, ae) (1, bn, bm, be) be) be up, ()) := by
 obtain ⟨d, hd⟩ : ∃ d : Nat, ae = be + d := ⟨(ae - be).toNat, by omega⟩
 have pd := p2_pos d
 have ex : exs (1, an, am, ae) (1, bn, bm, be) be = sg an am * 2 ^ d + sg bn bm := by
  unfold exs
  simp only [show (ae - be).toNat = d by omega, show (be - be).toNat = 0 by omega, Int.pow_zero, Int.mul_one]
 have ad := mul_le_p d a0
 by_cases h : an = bn
 ·subst h
  have vp : 0 < am * 2 ^ d + bm := by omega
  have es : sg an am * 2 ^ d + sg an bm = sg an (am * 2 ^ d + bm) := by
   unfold sg
   cases an
   ·simp
   ·simp only [if_true]; rw [Int.neg_mul]; omega
  rw [plus_eq k _ _ _ _ _ a0 a1 b0 b1 e0 e1 hd, ex, es, rnz_sg vp, show (an == an) = true by simp, cond_true]
  rfl
 ·have hn : bn = !an := by cases an <;> cases bn <;> simp_all
  subst hn
  have es : sg an am * 2 ^ d + sg (!an) bm = sg an (am * 2 ^ d - bm) := by
   unfold sg
   cases an
   ·simp only [Bool.not_false, if_true, Bool.false_eq_true, if_false]; omega
   ·simp only [if_true, Bool.not_true, Bool.false_eq_true, if_false]; rw [Int.neg_mul]; omega
  have m : 0 < am * 2 ^ d - bm -> arith_minus k (1, an, am, ae) (1, !an, bm, be) up = some (rnz (exs (1, an, am, ae) (1, !an, bm, be) be) be up, ()) := fun hv => by
   rw [minus_eq k _ _ _ _ _ a0 a1 b0 b1 e0 e1 hd hv, ex, es, rnz_sg hv]
  rw [show (an == !an) = false by cases an <;> rfl, cond_false]
  by_cases h2 : ae = be
  ·have d0 : d = 0 := by omega
   subst d0
   simp only [Int.pow_zero, Int.mul_one] at m es
   rw [beq_t h2, cond_true]
   by_cases h3 : am = bm
   ·rw [beq_t h3, cond_true, ex, Int.pow_zero, Int.mul_one, es, h3, Int.sub_self]
    unfold rnz sg
    simp
   ·rw [beq_f h3, cond_false, m (by omega)]; rfl
  ·rw [beq_f h2, cond_false, m]
   ·rfl
   ·have := p2_mono (i := 1) (j := d) (by omega)
    rw [Int.pow_one] at this
    have := Int.mul_le_mul_of_nonneg_left this (show 0 <= am by omega)
    omega
theorem i12 : ((1 : Int) == 2) = false := rfl
theorem i10 : ((1 : Int) == 0) = false := rfl
theorem i02 : ((0 : Int) == 2) = false := rfl
theorem i00 : ((0 : Int) == 0) = true := rfl
theorem i22 : ((2 : Int) == 2) = true := rfl
theorem i20 : ((2 : Int) == 0) = false := rfl
theorem arith_Add_eq (k : Nat) (a b : Nm) (up : Bool) (ha : a.2.2.1 < 18446744073709551616) (hb : b.2.2.1 < 18446744073709551616) :
  arith_Add k a b up = some (addv (fair a) (fair b) up, ()) := by
 simp only [arith_Add, arith_fair_eq, Option.bind_some]
 have ma := fair_wf ha
 have mb := fair_wf hb
 generalize fair a = x at ma
 generalize fair b = y at mb
 clear ha hb a b
 obtain ⟨a1, a2, a3, a4⟩ := x
 obtain ⟨b1, b2, b3, b4⟩ := y
 rcases ma with ⟨h1, h2, h3, h4⟩ | ⟨h1, h2, h3, h4, h5⟩ | ⟨h1, h2, h3⟩ <;> rcases mb with ⟨g1, g2, g3, g4⟩ | ⟨g1, g2, g3, g4, g5⟩ | ⟨g1, g2, g3⟩ <;> simp only at h1 g1 <;> subst h1 g1
 case inr.inl.inr.inl =>
  simp only at h2 h3 h4 h5 g2 g3 g4 g5
  rw [addv_fin rfl rfl]
  simp only [i12, i10, cond_false]
  by_cases z : b4 > a4
  ·rw [cond_t z, add3 k _ _ _ g2 g3 h2 h3 (by omega) (by omega) (.inl z), exs_comm, Int.min_eq_left (by omega)]
  ·rw [cond_f z]
   by_cases z2 : b4 = a4
   ·rw [beq_t z2, cond_true]
    by_cases z3 : b3 > a3
    ·have := add3 k (ae := b4) (be := a4) b2 a2 up g2 g3 h2 h3 (by omega) (by omega) (.inr ⟨z2.symm, by omega⟩)
     rw [beq_t z2] at this
     rw [cond_t z3]
     erw [this]
     rw [exs_comm, Int.min_eq_left (by omega)]
    ·have := add3 k (ae := a4) (be := b4) a2 b2 up h2 h3 g2 g3 (by omega) (by omega) (.inr ⟨z2, by omega⟩)
     rw [cond_f z3]
     erw [this]
     rw [Int.min_eq_right (by omega)]
   ·rw [beq_f z2, cond_false]
    have := add3 k (ae := a4) (be := b4) a2 b2 up h2 h3 g2 g3 (by omega) (by omega) (.inl (by omega))
    erw [this]
    rw [Int.min_eq_right (by omega)]
 all_goals simp only at h2 h3 g2 g3
 all_goals simp only [i12, i10, i02, i00, i20, i22, cond_false, cond_true, addv, num_Inf_eq, Option.bind_some]
 all_goals (cases a2 <;> cases b2 <;> simp_all)
theorem mul64_eq (k : Nat) {x y : Int} (x0 : 0 <= x) (x1 : x < 18446744073709551616) (y0 : 0 <= y) (y1 : y < 18446744073709551616) : bits_Mul64 k x y = some (x * y / 18446744073709551616, x * y % 18446744073709551616, ()) := by
 have bd : ∀ a b : Int, 0 <= a -> a < 4294967296 -> 0 <= b -> b < 4294967296 -> 0 <= a * b /\ a * b <= 18446744065119617025 := fun a b ha ha' hb hb' => mul_bound ⟨ha, ha'⟩ ⟨hb, hb'⟩
 simp only [bits_Mul64, shr32, andR]
 rw [and_low x0 x1, and_low y0 y1]
 obtain ⟨xh, xl, hx, xh0, xh1, xl0, xl1⟩ : ∃ xh xl : Int, x = xh * 4294967296 + xl /\ 0 <= xh /\ xh < 4294967296 /\ 0 <= xl /\ xl < 4294967296 := ⟨x / 4294967296, x % 4294967296, by omega, by omega, by omega, by omega, by omega⟩
 obtain ⟨yh, yl, hy, yh0, yh1, yl0, yl1⟩ : ∃ yh yl : Int, y = yh * 4294967296 + yl /\ 0 <= yh /\ yh < 4294967296 /\ 0 <= yl /\ yl < 4294967296 := ⟨y / 4294967296, y % 4294967296, by omega, by omega, by omega, by omega, by omega⟩
 rw [show x / 4294967296 = xh by omega, show x % 4294967296 = xl by omega, show y / 4294967296 = yh by omega, show y % 4294967296 = yl by omega]
 have hp : x * y = xh * yh * 18446744073709551616 + (xh * yl + xl * yh) * 4294967296 + xl * yl := by rw [hx, hy]; grind
 obtain ⟨p1, p2⟩ := bd xh yh xh0 xh1 yh0 yh1
 obtain ⟨p3, p4⟩ := bd xh yl xh0 xh1 yl0 yl1
 obtain ⟨p5, p6⟩ := bd xl yh xl0 xl1 yh0 yh1
 obtain ⟨p7, p8⟩ := bd xl yl xl0 xl1 yl0 yl1
 rw [hp]
 generalize xh * yh = A at *
 generalize xh * yl = B at *
 generalize xl * yh = C at *
 generalize xl * yl = D at *
 clear hp hx hy x0 x1 y0 y1 xh0 xh1 xl0 xl1 yh0 yh1 yl0 yl1 bd
 rw [u64w (x := D) (by omega) (by omega), u64w (x := B) (by omega) (by omega), u64w (x := B + D / 4294967296) (by omega) (by omega), u64w (x := C) (by omega) (by omega), u64w (x := A) (by omega) (by omega), and_low (x := B + D / 4294967296) (by omega) (by omega)]
 rw [u64w (x := A + (B + D / 4294967296) / 4294967296) (by omega) (by omega), u64w (x := (B + D / 4294967296) % 4294967296 + C) (by omega) (by omega), u64w (by omega) (by omega), wrap_u64]
 have e1 : A + (B + D / 4294967296) / 4294967296 + ((B + D / 4294967296) % 4294967296 + C) / 4294967296 = (A * 18446744073709551616 + (B + C) * 4294967296 + D) / 18446744073709551616 := by omega
 exact congrArg some (Prod.ext e1 rfl)
theorem arith_Mul_eq (k : Nat) (a b : Nm) (up : Bool) (ha : a.2.2.1 < 18446744073709551616) (hb : b.2.2.1 < 18446744073709551616) :
  arith_Mul k a b up = some (mulv (fair a) (fair b) up, ()) := by
 simp only [arith_Mul, arith_fair_eq, Option.bind_some]
 have ma := fair_wf ha
 have mb := fair_wf hb
 generalize fair a = x at ma
 generalize fair b = y at mb
 clear ha hb a b
 obtain ⟨a1, a2, a3, a4⟩ := x
 obtain ⟨b1, b2, b3, b4⟩ := y
 rcases ma with ⟨h1, h2, h3, h4⟩ | ⟨h1, h2, h3, h4, h5⟩ | ⟨h1, h2, h3⟩ <;> rcases mb with ⟨g1, g2, g3, g4⟩ | ⟨g1, g2, g3, g4, g5⟩ | ⟨g1, g2, g3⟩ <;> simp only at h1 g1 <;> subst h1 g1
 case inr.inl.inr.inl =>
  simp only at h2 h3 h4 h5 g2 g3 g4 g5
  rw [mulv_fin rfl rfl]
  have ne : (!(a2 == b2)) = (a2 != b2) := rfl
  have ne2 : ∀ c : Bool, (!(up == c)) = (up != c) := fun _ => rfl
  simp only [i12, i10, cond_false]
  rw [mul64_eq k (by omega) h3 (by omega) g3]
  have q1 : 9223372036854775808 * 9223372036854775808 <= a3 * b3 := Int.mul_le_mul h2 g2 (by decide) (by omega)
  have q2 : a3 * b3 <= 18446744073709551615 * 18446744073709551615 := Int.mul_le_mul (by omega) (by omega) (by omega) (by decide)
  generalize a3 * b3 = P at q1 q2
  have w1 : IntKind.i64.wrap (a4 + b4) = a4 + b4 := w64 (by omega) (by omega)
  have w2 : IntKind.i64.wrap (a4 + b4 + 64) = a4 + b4 + 64 := w64 (by omega) (by omega)
  have w3 : IntKind.i64.wrap (a4 + b4 + 64 - 1) = a4 + b4 + (63 : Nat) := by rw [w64 (by omega) (by omega)]; omega
  simp only [Option.bind_some, w1, w2, w3, shl1, shr63, orR, ne, ne2]
  by_cases z : P / 18446744073709551616 < 9223372036854775808
  ·rw [cond_t z]
   have o := (or_sum (h := P / 18446744073709551616) (l := P % 18446744073709551616 / 9223372036854775808) (b := 1) (j := 63) rfl (by omega) (by rw [p63]; exact z) (by omega) (by rw [Int.pow_one]; omega)).1
   rw [Int.pow_one] at o
   have s : P / 18446744073709551616 * 2 % 18446744073709551616 = P / 18446744073709551616 * 2 := by omega
   rw [s, o, grw_eq k _ _ _ _ _ (by omega) (by omega) (by omega) (by omega), Option.bind_some]
   congr 2
   refine (rnd_fit (div_fit (d := 63) (by omega) (by omega) (by rw [p63]; omega) ?_) _ _).symm
   rw [p63, bne_iff_ne]
   omega
  ·rw [cond_f z, grw_eq k _ _ _ _ _ (by omega) (by omega) (by omega) (by omega), Option.bind_some]
   congr 2
   refine (rnd_fit (e := a4 + b4) (div_fit (d := 64) (by omega) (by omega) (by rw [p64]) ?_) _ _).symm
   rw [p64, bne_iff_ne]
 all_goals simp only at h2 h3 g2 g3
 all_goals simp only [i12, i10, i02, i00, i20, i22, cond_false, cond_true, mulv, num_Inf_eq, Option.bind_some]
 all_goals (cases a2 <;> cases b2 <;> simp_all)
def wfN (n : Nm) : Prop := n.2.2.1 < 18446744073709551616
def wfI (x : Iv) : Prop := wfN x.2.1 /\ wfN x.2.2
def wfS (s : Sl) : Prop := wfN s.1 /\ wfI s.2.1 /\ wfI s.2.2
def wfT (t : Tb) : Prop := wfN t.1 /\ wfI t.2.1 /\ ∀ s ∈ t.2.2, wfS s
theorem wfN_zN : wfN zN := by unfold wfN; decide
theorem wfN_inf (b : Bool) : wfN (inf b) := show (0 : Int) < 18446744073709551616 by decide
theorem wfN_fair {n : Nm} (h : wfN n) : wfN (fair n) := by unfold fair; split; exact h; exact wfN_zN
theorem wfN_mayP {n : Nm} (h : mayP n) : wfN n := by
 obtain ⟨a, b, c, d⟩ := n
 rcases h with ⟨_, _, h, _⟩ | ⟨_, _, h, _⟩ | ⟨_, h, _⟩ <;> simp only [wfN] at * <;> omega
theorem wfN_neg {n : Nm} (h : wfN n) : wfN (neg n) := by have := wfN_fair h; exact this
theorem wfI_none : wfI noneI := ⟨wfN_zN, wfN_zN⟩
theorem wfI_mkI {a b : Nm} (ha : wfN a) (hb : wfN b) : wfI (mkI a b) := by
 rcases mkI_cases a b with e | ⟨e, _⟩ <;> rw [e]
 ·exact wfI_none
 ·exact ⟨wfN_fair ha, wfN_fair hb⟩
theorem wfN_least {l : List Nm} (h : ∀ n ∈ l, wfN n) : wfN (least l) := by
 rcases least_mem l with e | ⟨n, hn, e⟩ <;> rw [e]
 ·exact wfN_inf _
 ·exact wfN_fair (h n hn)
theorem wfN_most {l : List Nm} (h : ∀ n ∈ l, wfN n) : wfN (most l) := by
 rcases most_mem l with e | ⟨n, hn, e⟩ <;> rw [e]
 ·exact wfN_inf _
 ·exact wfN_fair (h n hn)
theorem wfI_fair {x : Iv} (h : wfI x) : wfI (fairI x) := by unfold fairI; split; exact h; exact wfI_none
theorem wfI_two {a b : Iv} (ha : wfI a) (hb : wfI b) : wfI (two a b) := by
 unfold two
 split
 ·exact wfI_none
 ·refine wfI_mkI (wfN_most fun n hn => ?_) (wfN_least fun n hn => ?_)
  ·simp only [List.mem_cons, List.not_mem_nil, or_false] at hn
   rcases hn with rfl | rfl
   ·exact (wfI_fair ha).1
   ·exact (wfI_fair hb).1
  ·simp only [List.mem_cons, List.not_mem_nil, or_false] at hn
   rcases hn with rfl | rfl
   ·exact (wfI_fair ha).2
   ·exact (wfI_fair hb).2
def bad (x : Iv) : Bool := x.1 || !mayI x
def addI (x y : Iv) : Iv := if bad x || bad y then noneI else mkI (addv (fair x.2.1) (fair y.2.1) false) (addv (fair x.2.2) (fair y.2.2) true)
def negI (x : Iv) : Iv := if bad x then noneI else mkI (neg x.2.2) (neg x.2.1)
def subI (x y : Iv) : Iv := addI x (negI y)
def mulI (x y : Iv) : Iv := if bad x || bad y then noneI else
 mkI (least [mulv (fair x.2.1) (fair y.2.1) false, mulv (fair x.2.1) (fair y.2.2) false, mulv (fair x.2.2) (fair y.2.1) false, mulv (fair x.2.2) (fair y.2.2) false])
  (most [mulv (fair x.2.1) (fair y.2.1) true, mulv (fair x.2.1) (fair y.2.2) true, mulv (fair x.2.2) (fair y.2.1) true, mulv (fair x.2.2) (fair y.2.2) true])
theorem addP {a b : Nm} (ha : wfN a) (hb : wfN b) (up : Bool) : mayP (addv (fair a) (fair b) up) := addv_may up (fair_wf ha) (fair_wf hb)
theorem mulP {a b : Nm} (ha : wfN a) (hb : wfN b) (up : Bool) : mayP (mulv (fair a) (fair b) up) := mulv_may up (fair_wf ha) (fair_wf hb)
theorem wfI_addI {x y : Iv} (hx : wfI x) (hy : wfI y) : wfI (addI x y) := by
 unfold addI
 split
 ·exact wfI_none
 ·exact wfI_mkI (wfN_mayP (addP hx.1 hy.1 _)) (wfN_mayP (addP hx.2 hy.2 _))
theorem wfI_negI {x : Iv} (hx : wfI x) : wfI (negI x) := by
 unfold negI
 split
 ·exact wfI_none
 ·exact wfI_mkI (wfN_neg hx.2) (wfN_neg hx.1)
theorem wfI_subI {x y : Iv} (hx : wfI x) (hy : wfI y) : wfI (subI x y) := wfI_addI hx (wfI_negI hy)
theorem wfI_mulI {x y : Iv} (hx : wfI x) (hy : wfI y) : wfI (mulI x y) := by
 unfold mulI
 split
 ·exact wfI_none
 ·refine wfI_mkI (wfN_least fun n hn => ?_) (wfN_most fun n hn => ?_)
  all_goals
   simp only [List.mem_cons, List.not_mem_nil, or_false] at hn
   rcases hn with rfl | rfl | rfl | rfl
   ·exact wfN_mayP (mulP hx.1 hy.1 _)
   ·exact wfN_mayP (mulP hx.1 hy.2 _)
   ·exact wfN_mayP (mulP hx.2 hy.1 _)
   ·exact wfN_mayP (mulP hx.2 hy.2 _)
theorem none_loop (k : Nat) : ∀ (s pre : List Iv) (m : Nat), s.length < m -> pre.length + s.length <= 1000000 ->
  ivop_none_l0 k m ((pre ++ s, ((pre ++ s).length : Int), (pre.length : Int), ()), ()) = some (bif s.any bad then Sum.inl ((true, ()), ()) else Sum.inr (Sum.inl ((), ())))
 | [], pre, m + 1, hm, hl => by simp [ivop_none_l0]
 | x :: s, pre, m + 1, hm, hl => by
  simp only [List.length_cons] at hm hl
  have ih := none_loop k s (pre ++ [x]) m (by omega) (by simp; omega)
  rw [mid_eq, len_snoc] at ih
  simp only [ivop_none_l0, cond_t (len_lt pre x s), if_pos (Int.natCast_nonneg pre.length), at_mid, Option.bind_some, iv_May_eq, wrap_succ (show pre.length <= 1000000000 by omega)]
  rw [ih]
  simp only [List.any_cons, bad]
  cases x.1 <;> cases mayI x <;> simp
theorem ivop_none_eq (k : Nat) (l : List Iv) (h : l.length < k) (h' : l.length <= 1000000) : ivop_none k l = some (l.any bad, ()) := by
 have := none_loop k l [] k h (by simpa using h')
 simp only [List.nil_append, List.length_nil] at this
 simp only [ivop_none]
 rw [show ((0 : Nat) : Int) = 0 from rfl] at this
 rw [this]
 cases l.any bad <;> rfl
theorem ivop_Add_eq (k : Nat) (hk : 100 <= k) {x y : Iv} (hx : wfI x) (hy : wfI y) : ivop_Add k [x, y] = some (addI x y, ()) := by
 simp only [ivop_Add, ivop_none_eq k [x, y] (by simp; omega) (by simp), Option.bind_some, iv_None_eq, addI]
 simp only [List.any_cons, List.any_nil, Bool.or_false]
 cases hb : (bad x || bad y)
 ·rw [cond_false]
  obtain ⟨m, rfl⟩ : ∃ m, k = m + 1 + 1 + 1 := ⟨k - 3, by omega⟩
  have c0 : (0 : Int) < (([x, y] : List Iv).length : Int) := by simp
  have c1 : (1 : Int) < (([x, y] : List Iv).length : Int) := by simp
  have c2 : ¬ (2 : Int) < (([x, y] : List Iv).length : Int) := by simp
  have w1 : IntKind.i64.wrap (0 + 1) = 1 := by decide
  have w2 : IntKind.i64.wrap (1 + 1) = 2 := by decide
  have g0 : ([x, y] : List Iv)[Int.toNat 0]? = some x := rfl
  have g1 : ([x, y] : List Iv)[Int.toNat 1]? = some y := rfl
  have z0 : (0 : Int) <= 0 := by decide
  have z1 : (0 : Int) <= 1 := by decide
  have step : ∀ Z, ivop_Add_l0 (m + 1 + 1 + 1) (m + 1 + 1 + 1) (((), (), (), [x, y], (([x, y] : List Iv).length : Int), 0, ()), Z) = some (Sum.inl (((), (), (), ()), (Z.1, addv (fair x.2.1) (fair y.2.1) false, addv (fair x.2.2) (fair y.2.2) true, ()))) := by
   intro Z
   rw [ivop_Add_l0]
   simp only [cond_t c0, if_pos z0, g0, Option.bind_some, i00, cond_true, w1]
   rw [ivop_Add_l0]
   simp only [cond_t c1, if_pos z1, g1, Option.bind_some, i10, cond_false, w2, arith_Add_eq _ _ _ _ hx.1 hy.1, arith_Add_eq _ _ _ _ hx.2 hy.2]
   rw [ivop_Add_l0]
   simp only [cond_f c2]
  rw [step]
  simp only [Option.bind_some, Sum.elim_inl, iv_Make_eq]
  simp
 ·rw [cond_true]; simp
theorem ivop_Neg_eq (k : Nat) (hk : 100 <= k) (x : Iv) : ivop_Neg k x = some (negI x, ()) := by
 simp only [ivop_Neg, ivop_none_eq k [x] (by simp; omega) (by simp), Option.bind_some, iv_None_eq, negI, num_Neg_eq, iv_Make_eq]
 simp only [List.any_cons, List.any_nil, Bool.or_false]
 cases bad x <;> simp
theorem ivop_Sub_eq (k : Nat) (hk : 100 <= k) {x y : Iv} (hx : wfI x) (hy : wfI y) : ivop_Sub k x y = some (subI x y, ()) := by
 simp only [ivop_Sub, ivop_Neg_eq k hk, Option.bind_some, ivop_Add_eq k hk hx (wfI_negI hy), subI]
theorem ivop_Mul_eq (k : Nat) (hk : 100 <= k) {x y : Iv} (hx : wfI x) (hy : wfI y) : ivop_Mul k x y = some (mulI x y, ()) := by
 simp only [ivop_Mul, ivop_none_eq k [x, y] (by simp; omega) (by simp), Option.bind_some, iv_None_eq, mulI, arith_Mul_eq _ _ _ _ hx.1 hy.1, arith_Mul_eq _ _ _ _ hx.1 hy.2, arith_Mul_eq _ _ _ _ hx.2 hy.1, arith_Mul_eq _ _ _ _ hx.2 hy.2,
  num_Least_eq k [_, _, _, _] (by simp; omega) (by simp), num_Most_eq k [_, _, _, _] (by simp; omega) (by simp), iv_Make_eq]
 simp only [List.any_cons, List.any_nil, Bool.or_false]
 cases (bad x || bad y) <;> simp
theorem arith_Sub_eq (k : Nat) {a b : Nm} (ha : wfN a) (hb : wfN b) (up : Bool) : arith_Sub k a b up = some (addv (fair a) (neg b) up, ()) := by
 simp only [arith_Sub, num_Neg_eq, Option.bind_some, arith_Add_eq k a (neg b) up ha (wfN_neg hb), fair_may (may_neg b)]
def slG (l : List Sl) (i : Nat) : Sl := l[i]?.getD (zN, noneI, noneI)
def timeN (t : Tb) : Nat -> Nm
 | 0 => t.1
 | i + 1 => (slG t.2.2 i).1
def gtN (t : Tb) : Nat -> Iv
 | 0 => t.2.1
 | i + 1 => (slG t.2.2 i).2.2
def dtI (t : Tb) (i : Nat) : Iv := mkI (addv (fair (timeN t (i + 1))) (neg (timeN t i)) false) (addv (fair (timeN t (i + 1))) (neg (timeN t i)) true)
theorem slG_eq {l : List Sl} {i : Nat} (h : i < l.length) : l[i]? = some (slG l i) := by unfold slG; rw [List.getElem?_eq_getElem h]; rfl
theorem slG_mem {l : List Sl} {i : Nat} (h : i < l.length) : slG l i ∈ l := List.mem_of_getElem? (slG_eq h)
theorem wfN_time {t : Tb} (h : wfT t) {i : Nat} (hi : i <= t.2.2.length) : wfN (timeN t i) := by
 cases i with
 | zero => exact h.1
 | succ i => exact (h.2.2 _ (slG_mem hi)).1
theorem wfI_gt {t : Tb} (h : wfT t) {i : Nat} (hi : i <= t.2.2.length) : wfI (gtN t i) := by
 cases i with
 | zero => exact h.2.1
 | succ i => exact (h.2.2 _ (slG_mem hi)).2.2
theorem flow_when_eq (k : Nat) (t : Tb) (i : Nat) (hi : i <= t.2.2.length) (hl : i <= 1000) : flow_when k t (i : Int) = some (timeN t i, ()) := by
 cases i with
 | zero => rfl
 | succ i =>
  simp only [flow_when]
  rw [beq_f (by omega), cond_false, wrap_pred (by omega), if_pos (Int.natCast_nonneg i), Int.toNat_natCast, slG_eq hi]
  rfl
theorem flow_Time_eq (k : Nat) (hk : 100 <= k) (t : Tb) (i : Nat) (hm : mayT t = true) (hw : wfT t) (hi : i < t.2.2.length) : flow_Time k t (i : Int) = some (dtI t i, ()) := by
 have hl := mayT_len hm
 have c1 : ¬ (i : Int) < 0 := by omega
 have c2 : ¬ (i : Int) >= (t.2.2.length : Int) := by omega
 simp only [flow_Time, tube_May_eq k hk, hm, Option.bind_some, Bool.not_true, cond_false, cond_f c1, cond_f c2, wrap_succ (show i <= 1000000000 by omega),
  flow_when_eq k t i (by omega) (by omega), flow_when_eq k t (i + 1) (by omega) (by omega), arith_Sub_eq k (wfN_time hw (show i + 1 <= _ by omega)) (wfN_time hw (show i <= _ by omega)), iv_Make_eq, dtI]
theorem wfI_dt {t : Tb} (hw : wfT t) {i : Nat} (hi : i < t.2.2.length) : wfI (dtI t i) := by
 have h1 := wfN_time hw (show i + 1 <= t.2.2.length by omega)
 have h2 := wfN_time hw (show i <= t.2.2.length by omega)
 have p : ∀ up, mayP (addv (fair (timeN t (i + 1))) (neg (timeN t i)) up) := fun up => addv_may up (fair_wf h1) (by have := fair_wf (wfN_neg h2); rwa [fair_may (may_neg _)] at this)
 exact wfI_mkI (wfN_mayP (p _)) (wfN_mayP (p _))
def rtG (r : List Iv) (i : Nat) : Iv := r[i]?.getD noneI
theorem rtG_eq {r : List Iv} {i : Nat} (h : i < r.length) : r[i]? = some (rtG r i) := by unfold rtG; rw [List.getElem?_eq_getElem h]; rfl
theorem rtG_mem {r : List Iv} {i : Nat} (h : i < r.length) : rtG r i ∈ r := List.mem_of_getElem? (rtG_eq h)
def runA (r : List Iv) (t : Tb) (i : Nat) : Iv := mulI (rtG r i) (dtI t i)
def runB (r : List Iv) (t : Tb) (i : Nat) : Iv := mulI (rtG r i) (mkI zN (dtI t i).2.2)
def fwd (r : List Iv) (t : Tb) (i : Nat) : Tb :=
 (t.1, t.2.1, t.2.2.set i ((slG t.2.2 i).1, two (slG t.2.2 i).2.1 (addI (gtN t i) (runB r t i)), two (slG t.2.2 i).2.2 (addI (gtN t i) (runA r t i))))
def setG (t : Tb) (x : Iv) : Nat -> Tb
 | 0 => (t.1, x, t.2.2)
 | i + 1 => (t.1, t.2.1, t.2.2.set i ((slG t.2.2 i).1, (slG t.2.2 i).2.1, x))
def bwd (r : List Iv) (t : Tb) (i : Nat) : Tb :=
 let t' := setG t (two (gtN t i) (subI (gtN t (i + 1)) (runA r t i))) i
 (t'.1, t'.2.1, t'.2.2.set i ((slG t.2.2 i).1, two (slG t.2.2 i).2.1 (subI (gtN t (i + 1)) (runB r t i)), (slG t.2.2 i).2.2))
theorem fwd_len (r : List Iv) (t : Tb) (i : Nat) : (fwd r t i).2.2.length = t.2.2.length := by simp [fwd]
theorem bwd_len (r : List Iv) (t : Tb) (i : Nat) : (bwd r t i).2.2.length = t.2.2.length := by cases i <;> simp [bwd, setG]
def fwds (r : List Iv) : Nat -> Nat -> Tb -> Tb
 | 0, _, t => t
 | j + 1, i, t => fwds r j (i + 1) (fwd r t i)
def bwds (r : List Iv) : Nat -> Tb -> Tb
 | 0, t => t
 | j + 1, t => bwds r j (bwd r t j)
theorem fwds_len (r : List Iv) : ∀ j i t, (fwds r j i t).2.2.length = t.2.2.length
 | 0, _, _ => rfl
 | j + 1, i, t => by rw [fwds, fwds_len r j, fwd_len]
theorem bwds_len (r : List Iv) : ∀ j t, (bwds r j t).2.2.length = t.2.2.length
 | 0, _ => rfl
 | j + 1, t => by rw [bwds, bwds_len r j, bwd_len]
theorem slG_set_ne {l : List Sl} {i j : Nat} (h : i ≠ j) (s : Sl) : slG (l.set i s) j = slG l j := by unfold slG; rw [List.getElem?_set_ne h]
theorem ends_set' {l : List Sl} {i : Nat} {s : Sl} (h : s.1 = (slG l i).1) : ends (l.set i s) = ends l := by
 apply List.ext_getElem?
 intro n
 simp only [ends, List.getElem?_map, List.getElem?_set]
 split
 ·rename_i e
  subst e
  split
  ·rename_i hl
   rw [slG_eq hl]; simp [h]
  ·rename_i hl
   rw [List.getElem?_eq_none (by omega)]
 ·rfl
theorem okS_set' : ∀ {l : List Sl} {w : Nm} {i : Nat} {s : Sl}, okS w l = true -> s.1 = (slG l i).1 -> mayI s.2.1 = true -> mayI s.2.2 = true -> okS w (l.set i s) = true
 | [], _, _, _, _, _, _, _ => by simp [okS]
 | x :: l, w, 0, s, h, h1, h2, h3 => by
  have h1 : s.1 = x.1 := h1
  simp only [List.set_cons_zero, okS, Bool.and_eq_true] at h ⊢
  rw [h1]
  exact ⟨⟨⟨h.1.1.1, h2⟩, h3⟩, h.2⟩
 | x :: l, w, i + 1, s, h, h1, h2, h3 => by
  simp only [List.set_cons_succ, okS, Bool.and_eq_true] at h ⊢
  exact ⟨h.1, okS_set' h.2 h1 h2 h3⟩
theorem okS_mem {l : List Sl} : ∀ {w : Nm}, okS w l = true -> ∀ s ∈ l, mayI s.2.1 = true /\ mayI s.2.2 = true := by
 induction l with
 | nil => intro w h s hs; cases hs
 | cons x l ih =>
  intro w h s hs
  simp only [okS, Bool.and_eq_true] at h
  rcases List.mem_cons.1 hs with rfl | hs
  ·exact ⟨h.1.1.2, h.1.2⟩
  ·exact ih h.2 s hs
theorem mayT_iff {t : Tb} : mayT t = true ↔ finite t.1 = true /\ mayI t.2.1 = true /\ t.2.2.length <= 64 /\ okS t.1 t.2.2 = true := by
 simp only [mayT, Bool.and_eq_true, decide_eq_true_eq, and_assoc]
theorem mayT_set {t : Tb} {i : Nat} {s : Sl} (h : mayT t = true) (h1 : s.1 = (slG t.2.2 i).1) (h2 : mayI s.2.1 = true) (h3 : mayI s.2.2 = true) : mayT (t.1, t.2.1, t.2.2.set i s) = true := by
 rw [mayT_iff] at *
 exact ⟨h.1, h.2.1, by simpa using h.2.2.1, okS_set' h.2.2.2 h1 h2 h3⟩
theorem mayT_sl {t : Tb} (h : mayT t = true) {i : Nat} (hi : i < t.2.2.length) : mayI (slG t.2.2 i).2.1 = true /\ mayI (slG t.2.2 i).2.2 = true := okS_mem (mayT_iff.1 h).2.2.2 _ (slG_mem hi)
theorem mayT_fwd {r : List Iv} {t : Tb} {i : Nat} (h : mayT t = true) : mayT (fwd r t i) = true := mayT_set h rfl (mayI_two _ _) (mayI_two _ _)
theorem mayT_setG {t : Tb} {x : Iv} {i : Nat} (h : mayT t = true) (hx : mayI x = true) (hi : i <= t.2.2.length) : mayT (setG t x i) = true := by
 cases i with
 | zero =>
  rw [mayT_iff] at *
  exact ⟨h.1, hx, h.2.2⟩
 | succ i => exact mayT_set h rfl (mayT_sl h hi).1 hx
theorem slG_setG {t : Tb} {x : Iv} (i : Nat) : slG (setG t x i).2.2 i = slG t.2.2 i := by
 cases i with
 | zero => rfl
 | succ i => exact slG_set_ne (by omega) _
theorem mayT_bwd {r : List Iv} {t : Tb} {i : Nat} (h : mayT t = true) (hi : i < t.2.2.length) : mayT (bwd r t i) = true := by
 refine mayT_set (t := setG t _ i) (mayT_setG h (mayI_two _ _) (by omega)) ?_ (mayI_two _ _) (mayT_sl h hi).2
 rw [slG_setG]
theorem wfT_set {t : Tb} {i : Nat} {s : Sl} (h : wfT t) (hs : wfS s) : wfT (t.1, t.2.1, t.2.2.set i s) := by
 refine ⟨h.1, h.2.1, fun x hx => ?_⟩
 rcases List.mem_or_eq_of_mem_set hx with hx | rfl
 ·exact h.2.2 x hx
 ·exact hs
theorem wfI_runA {r : List Iv} {t : Tb} {i : Nat} (hr : ∀ x ∈ r, wfI x) (hi : i < r.length) (h : wfT t) (hi' : i < t.2.2.length) : wfI (runA r t i) := wfI_mulI (hr _ (rtG_mem hi)) (wfI_dt h hi')
theorem wfI_runB {r : List Iv} {t : Tb} {i : Nat} (hr : ∀ x ∈ r, wfI x) (hi : i < r.length) (h : wfT t) (hi' : i < t.2.2.length) : wfI (runB r t i) := wfI_mulI (hr _ (rtG_mem hi)) (wfI_mkI wfN_zN (wfI_dt h hi').2)
theorem wfT_fwd {r : List Iv} {t : Tb} {i : Nat} (hr : ∀ x ∈ r, wfI x) (hi : i < r.length) (h : wfT t) (hi' : i < t.2.2.length) : wfT (fwd r t i) := by
 have hs := h.2.2 _ (slG_mem hi')
 have hg := wfI_gt h (show i <= t.2.2.length by omega)
 exact wfT_set h ⟨hs.1, wfI_two hs.2.1 (wfI_addI hg (wfI_runB hr hi h hi')), wfI_two hs.2.2 (wfI_addI hg (wfI_runA hr hi h hi'))⟩
theorem wfT_setG {t : Tb} {x : Iv} {i : Nat} (h : wfT t) (hx : wfI x) (hi : i <= t.2.2.length) : wfT (setG t x i) := by
 cases i with
 | zero => exact ⟨h.1, hx, h.2.2⟩
 | succ i =>
  have hs := h.2.2 _ (slG_mem (show i < t.2.2.length from hi))
  exact wfT_set h ⟨hs.1, hs.2.1, hx⟩
theorem wfT_bwd {r : List Iv} {t : Tb} {i : Nat} (hr : ∀ x ∈ r, wfI x) (hi : i < r.length) (h : wfT t) (hi' : i < t.2.2.length) : wfT (bwd r t i) := by
 have hs := h.2.2 _ (slG_mem hi')
 have hg := wfI_gt h (show i <= t.2.2.length by omega)
 have hg2 : wfI (gtN t (i + 1)) := hs.2.2
 exact wfT_set (t := setG t _ i) (wfT_setG h (wfI_two hg (wfI_subI hg2 (wfI_runA hr hi h hi'))) (by omega)) ⟨hs.1, wfI_two hs.2.1 (wfI_subI hg2 (wfI_runB hr hi h hi')), hs.2.2⟩
theorem set_self {l : List Sl} {i : Nat} (h : i < l.length) (s : Sl) : (l.set i s)[i]? = some s := List.getElem?_set_self h
def contractT (t : Tb) (r : List Iv) : Tb × Int :=
 if mayT t && decide (r.length = t.2.2.length) && r.all mayI then (fitT (bwds r t.2.2.length (fwds r t.2.2.length 0 (fitT t))), 0) else (zT, 1)
theorem wfI_g2 {s : Sl} (h : wfS s) {n : Option Sl} (hn : ∀ x, n = some x -> wfS x) : wfI (g2 s n) := by
 cases n with
 | none => exact wfI_two h.2.2 h.2.1
 | some x => exact wfI_two (wfI_two h.2.2 h.2.1) (hn x rfl).2.1
theorem wfS_fitN : ∀ (l : List Sl) (n : Option Sl), (∀ s ∈ l, wfS s) -> (∀ x, n = some x -> wfS x) -> ∀ s ∈ fitN l n, wfS s
 | [], n, h, hn, s, hs => by simp [fitN] at hs
 | y :: l, n, h, hn, s, hs => by
  rw [fitN_cons] at hs
  rcases List.mem_cons.1 hs with rfl | hs
  ·have hy := h y (by simp)
   refine ⟨hy.1, hy.2.1, wfI_g2 hy fun x hx => ?_⟩
   cases l with
   | nil => exact hn x (by simpa using hx)
   | cons z l =>
    have : z = x := by simpa using hx
    exact this ▸ h z (by simp)
  ·exact wfS_fitN l n (fun s hs => h s (by simp [hs])) hn s hs
theorem wfT_fitU {t : Tb} (h : wfT t) : wfT (fitU t) := by
 refine ⟨h.1, ?_, wfS_fitN _ _ h.2.2 (fun x hx => by cases hx)⟩
 show wfI (nx t.2.1 t.2.2)
 cases hl : t.2.2 with
 | nil => exact h.2.1
 | cons s l => exact wfI_two h.2.1 (h.2.2 s (by rw [hl]; simp)).2.1
theorem wfT_fitT {t : Tb} (h : wfT t) : wfT (fitT t) := by
 unfold fitT
 split
 ·split
  ·refine ⟨h.1, wfI_none, fun s hs => ?_⟩
   obtain ⟨x, hx, rfl⟩ := List.mem_map.1 hs
   exact ⟨(h.2.2 x hx).1, wfI_none, wfI_none⟩
  ·exact wfT_fitU h
 ·exact h
theorem mayT_fwds {r : List Iv} : ∀ {j i : Nat} {t : Tb}, mayT t = true -> mayT (fwds r j i t) = true
 | 0, _, _, h => h
 | j + 1, i, t, h => mayT_fwds (j := j) (mayT_fwd h)
theorem wfT_fwds {r : List Iv} (hr : ∀ x ∈ r, wfI x) : ∀ {j i : Nat} {t : Tb}, i + j <= r.length -> r.length = t.2.2.length -> wfT t -> wfT (fwds r j i t)
 | 0, _, _, _, _, h => h
 | j + 1, i, t, h1, h2, h => wfT_fwds hr (j := j) (by omega) (by rw [fwd_len]; exact h2) (wfT_fwd hr (by omega) h (by omega))
def Inv (u t : Tb) : Prop := mayT u = true /\ sameT u t = true /\ allW u.2.2 t.2.2 = true /\ within u.2.1 t.2.1 = true
theorem allW_set' : ∀ {l q : List Sl} {i : Nat} {s : Sl}, allW l q = true -> (i < l.length -> wiS s (slG l i) = true) -> allW (l.set i s) q = true
 | [], q, i, s, h, _ => by simpa using h
 | x :: l, [], i, s, h, _ => by cases i <;> simp [allW]
 | x :: l, y :: q, 0, s, h, hs => by
  have hs : wiS s x = true := hs (by simp)
  simp only [List.set_cons_zero, allW, Bool.and_eq_true, wiS] at *
  exact ⟨⟨within_trans hs.1 h.1.1, within_trans hs.2 h.1.2⟩, h.2⟩
 | x :: l, y :: q, i + 1, s, h, hs => by
  simp only [List.set_cons_succ, allW, Bool.and_eq_true] at *
  exact ⟨h.1, allW_set' h.2 fun hi => hs (by simpa using hi)⟩
theorem sameT_set {u t : Tb} {i : Nat} {s : Sl} (h : sameT u t = true) (h1 : s.1 = (slG u.2.2 i).1) : sameT (u.1, u.2.1, u.2.2.set i s) t = true := by
 simp only [sameT, Bool.and_eq_true, decide_eq_true_eq] at *
 rw [ends_set' h1]
 exact h
theorem Inv.fwd {r : List Iv} {u t : Tb} {i : Nat} (h : Inv u t) : Inv (fwd r u i) t :=
 ⟨mayT_fwd h.1, sameT_set h.2.1 rfl, allW_set' h.2.2.1 fun _ => by simp only [wiS, two_le_left, Bool.and_self], h.2.2.2⟩
theorem Inv.setG {u t : Tb} {x : Iv} {i : Nat} (h : Inv u t) (hi : i <= u.2.2.length) (hx : within x (gtN u i) = true) (hm : mayI x = true) : Inv (setG u x i) t := by
 cases i with
 | zero => exact ⟨mayT_setG h.1 hm hi, h.2.1, h.2.2.1, within_trans hx h.2.2.2⟩
 | succ i => exact ⟨mayT_setG h.1 hm hi, sameT_set h.2.1 rfl, allW_set' h.2.2.1 fun _ => by simp only [wiS, within_refl, Bool.true_and]; exact hx, h.2.2.2⟩
theorem Inv.bwd {r : List Iv} {u t : Tb} {i : Nat} (h : Inv u t) (hi : i < u.2.2.length) : Inv (bwd r u i) t := by
 have h1 := h.setG (i := i) (x := two (gtN u i) (subI (gtN u (i + 1)) (runA r u i))) (by omega) (two_le_left _ _) (mayI_two _ _)
 have hl : (slG u.2.2 i) = slG (Pl.setG u (two (gtN u i) (subI (gtN u (i + 1)) (runA r u i))) i).2.2 i := (slG_setG i).symm
 refine ⟨mayT_bwd h.1 hi, sameT_set h1.2.1 (by rw [<- hl]), allW_set' h1.2.2.1 fun _ => ?_, h1.2.2.2⟩
 rw [<- hl]
 simp only [wiS, two_le_left, within_refl, Bool.and_self]
theorem Inv.fwds {r : List Iv} {t : Tb} : ∀ {j i : Nat} {u : Tb}, Inv u t -> Inv (fwds r j i u) t
 | 0, _, _, h => h
 | j + 1, i, u, h => Inv.fwds (j := j) h.fwd
theorem Inv.bwds {r : List Iv} {t : Tb} : ∀ {j : Nat} {u : Tb}, j <= u.2.2.length -> Inv u t -> Inv (bwds r j u) t
 | 0, _, _, h => h
 | j + 1, u, hj, h => Inv.bwds (j := j) (by rw [bwd_len]; omega) (h.bwd (by omega))
theorem allW_void : ∀ (l : List Sl), allW (l.map voidS) l = true
 | [] => rfl
 | x :: l => by simp [allW, wiS, voidS, within_none, allW_void l]
theorem Inv.fitT {t : Tb} (h : mayT t = true) : Inv (fitT t) t := by
 refine ⟨mayT_fitT h, sameT_fitT t, ?_, ?_⟩
 ·unfold Pl.fitT
  rw [if_pos h]
  split
  ·exact allW_void _
  ·exact allW_fitN _ _
 ·unfold Pl.fitT
  rw [if_pos h]
  split
  ·exact within_none _
  ·exact nx_le _ _
theorem contract_inv {t : Tb} {r : List Iv} (hm : mayT t = true) : Inv (bwds r t.2.2.length (fwds r t.2.2.length 0 (fitT t))) t :=
 Inv.bwds (by rw [fwds_len, fitT_len]; omega) (Inv.fwds (Inv.fitT hm))
theorem contract_within {t : Tb} {r : List Iv} (h : (contractT t r).2 = 0) : mayT (contractT t r).1 = true /\ withinT (contractT t r).1 t = true := by
 unfold contractT at *
 split at h
 case isFalse => cases h
 rename_i hm
 rw [if_pos hm]
 simp only [Bool.and_eq_true] at hm
 have i := contract_inv (r := r) hm.1.1
 exact ⟨mayT_fitT i.1, withinT_fitT i.1 hm.1.1 i.2.1 i.2.2.1 i.2.2.2⟩
theorem okN {x : Nm} (h : okU TNm x) : wfN x := by
 have h1 : (Lit.int .u64 x.2.2.1).wf = true := h.2.2.1
 have := ((Lit.wf_int_iff .u64 x.2.2.1).1 h1).2
 have e : IntKind.max .u64 = 18446744073709551615 := by decide
 rw [e] at this
 unfold wfN
 omega
theorem okI {x : Iv} (h : okU TIv x) : wfI x := ⟨okN h.2.1, okN h.2.2⟩
end Go.Proofs.YtliiapjinminlaaGreat.Rf.Pl
