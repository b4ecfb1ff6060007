/- Plain laws: what the functions answer, without the program's memory (part 4). No condition. -/
import Derived.Test.YtmlnohiaagmgnaaGreatP3
import Derived.KernelRfl
import Derived.DataShut
import Derived.Laws.BitsLemmas
import Derived.Lib.EndianBits
namespace Go.Proofs.YtmlnohiaagmgnaaGreat.Rf.Pl
open Go Go.Proofs
set_option linter.unusedVariables false
set_option linter.unusedSimpArgs false
/-! ### the document's exact numbers: sums, products, rounded -/
def dd (d : Dd) : (Bool × List Int) × Int := ((d.1, d.2.1), d.2.2)
theorem make2_ev (neg : Bool) (l : List Int) (h : U l) (hb : l.length ≤ 1073741824) : ∃ K, ∀ k, K ≤ k → pelorusref02_Make k neg l = some ((neg && decide (val l ≠ 0), lim (val l)), ()) := by
  obtain ⟨K, hK⟩ := rtrim_ev l h hb
  refine ⟨K, fun k hk => ?_⟩
  simp only [pelorusref02_Make]
  rw [hK k hk, Option.bind_some]
  have hn := val_nonneg h
  cases neg
  · rfl
  · rw [cond_true]
    have e : decide (((lim (val l)).length : Int) > 0) = (true && decide (val l ≠ 0)) := by
      rw [Bool.true_and, decide_eq_decide]
      have := lim_nil_iff hn
      omega
    rw [e]
theorem even_eq (k : Nat) {v : Int} (hv : 0 ≤ v) : pelorusref03_even k (lim v) = some (decide (v ≠ 0 ∧ v % 2 = 0), ()) := by
  simp only [pelorusref03_even]
  by_cases h : v = 0
  · subst h
    have : lim 0 = [] := limN_zero
    rw [this]; rfl
  · have hl := lim_pos (n := v) (by omega)
    have hlen : ((lim v).length : Int) > 0 := by rw [hl, List.length_cons]; omega
    rw [cond_t hlen, if_pos (by decide), hl]
    simp only [Int.toNat_zero, List.getElem?_cons_zero, Option.bind_some]
    rw [Int.tmod_eq_emod_of_nonneg (by omega)]
    have e : (v % 4294967296 % 2 == 0) = decide (v ≠ 0 ∧ v % 2 = 0) := by
      rw [Bool.eq_iff_iff, beq_iff_eq, decide_eq_true_iff]
      omega
    exact congrArg (fun b => some (b, ())) e
/-- Halved as often as that goes. -/
theorem m3_loop (neg : Bool) (D : (Bool × List Int) × Int) (n : Nat) : ∀ (v e i : Int), 0 < v → bl v = n → 0 ≤ i → i + n ≤ 4000000 → n ≤ 2300000 → -4194304 ≤ e → e + n ≤ 4194304 →
    ∃ (o : Int) (t : Nat), 0 < o ∧ o % 2 = 1 ∧ v = o * 2 ^ t ∧ e + t ≤ 4194304 ∧ ∃ K, ∀ k m, K ≤ k → K ≤ m → pelorusref03_Make_l0 k m ((e, (), (), i, ()), (D, (neg, lim v), ())) = some (Sum.inl ((e + t, (), (), ()), (D, (neg, lim o), ()))) := by
  obtain ⟨⟨D1, D2⟩, D3⟩ := D
  induction n with
  | zero => intro v e i hv hb; have := bl_pos hv; omega
  | succ n ih =>
    intro v e i hv hb i0 i1 hn e0 e1
    have ev := fun k => even_eq k (v := v) (by omega)
    have ci : i < 4000000 := by omega
    by_cases h2 : v % 2 = 0
    · have hb2 := bl_half hv h2
      obtain ⟨o, t, o0, o1, ho, ht, K2, hE⟩ := ih (v / 2) (e + 1) (i + 1) (by omega) (by omega) (by omega) (by omega) (by omega) (by omega) (by omega)
      refine ⟨o, t + 1, o0, o1, ?_, by omega, ?_⟩
      · rw [p2_succ, ← Int.mul_assoc, Int.mul_comm o 2, Int.mul_assoc, ← ho]; omega
      · have hl := len_lim (v := v) (by omega) (bl v).toNat (bl_lt (by omega))
        have s := rshr_ev (lim v) 1 (U_lim (by omega)) (by omega)
        rw [val_lim (by omega)] at s
        have sv : shrv v 1 = v / 2 := by unfold shrv; rw [if_neg (by decide)]; rfl
        rw [sv] at s
        obtain ⟨K1, s⟩ := s
        refine ⟨K1 + K2 + 1, fun k m hk hm => ?_⟩
        obtain ⟨m, rfl⟩ : ∃ i, m = i + 1 := ⟨m - 1, by omega⟩
        have w1 : IntKind.i64.wrap (e + 1) = e + 1 := w64 (by omega) (by omega)
        have w2 : IntKind.i64.wrap (i + 1) = i + 1 := w64 (by omega) (by omega)
        simp only [pelorusref03_Make_l0, cond_t ci, ev, Option.bind_some, decide_eq_true (show v ≠ 0 ∧ v % 2 = 0 from ⟨by omega, h2⟩), Bool.not_true, cond_false, s k (by omega), w1, w2]
        rw [hE k m (by omega) (by omega), show e + 1 + (t : Int) = e + ((t + 1 : Nat) : Int) by omega]
    · refine ⟨v, 0, hv, by omega, by simp, by omega, 1, fun k m hk hm => ?_⟩
      obtain ⟨m, rfl⟩ : ∃ i, m = i + 1 := ⟨m - 1, by omega⟩
      simp only [pelorusref03_Make_l0, cond_t ci, ev, Option.bind_some, decide_eq_false (show ¬ (v ≠ 0 ∧ v % 2 = 0) from fun h => h2 h.2), Bool.not_false, cond_true]
      rw [show e + ((0 : Nat) : Int) = e by omega]
theorem make3_ev (neg : Bool) (l : List Int) (e : Int) (h : U l) (hb : l.length ≤ 1073741824) (hl : bl (val l) ≤ 2300000) (e0 : -4194304 ≤ e) (e1 : e + bl (val l) ≤ 4194304) :
    ∃ d, Rep d (sg neg (val l)) e ∧ ∃ K, ∀ k, K ≤ k → pelorusref03_Make k (neg, l) e = some (dd d, ()) := by
  have hn := val_nonneg h
  obtain ⟨K, hK⟩ := make2_ev neg l h hb
  by_cases hz : val l = 0
  · refine ⟨(false, [], 0), .inl ⟨by rw [hz]; cases neg <;> rfl, rfl⟩, K + 1, fun k hk => ?_⟩
    simp only [pelorusref03_Make]
    rw [hK k (by omega), Option.bind_some, hz, show lim 0 = [] from limN_zero]
    rfl
  · have bp := bl_pos (n := val l) (by omega)
    obtain ⟨o, t, o0, o1, ho, ht, K2, hE⟩ := m3_loop neg ((false, []), 0) (bl (val l)).toNat (val l) e 0 (by omega) (by omega) (by decide) (by omega) (by omega) e0 (by omega)
    refine ⟨(neg, lim o, e + t), .inr ⟨o, t, o0, o1, sg_ne neg (by omega), by rw [sg_abs neg hn]; exact ho, by rw [sg_lt neg (by omega)]⟩, K + K2 + 1, fun k hk => ?_⟩
    have := lim_nil_iff hn
    have c1 : ¬ ((lim (val l)).length : Int) = 0 := by omega
    have c2 : ¬ e < -4194304 := by omega
    have c3 : ¬ e > 4194304 := by omega
    have c4 : ¬ e + (t : Int) > 4194304 := by omega
    simp only [pelorusref03_Make]
    rw [hK k (by omega), Option.bind_some, decide_eq_true hz, Bool.and_true]
    simp only [beq_f c1, cond_false, cond_f c2, cond_f c3]
    erw [hE k k (by omega) (by omega)]
    simp only [Option.bind_some, Sum.elim_inl, cond_f c4]
    rfl
/-- Made once more it is the same number. -/
theorem rep_make {d : Dd} {s f : Int} (h : Rep d s f) (hb : bl s.natAbs ≤ 2300000) (f0 : -4194304 ≤ f) (f1 : f + bl s.natAbs ≤ 4194304) : ∃ d', Rep d' s f ∧ ∃ K, ∀ k, K ≤ k → pelorusref03_Make k (d.1, d.2.1) d.2.2 = some (dd d', ()) := by
  rcases h with ⟨rfl, rfl⟩ | ⟨o, t, o0, o1, s0, hs, rfl⟩
  · obtain ⟨d', h1, h2⟩ := make3_ev false [] 0 U_nil (by simp) (by decide) (by decide) (by decide)
    refine ⟨d', ?_, h2⟩
    rcases h1 with ⟨_, h1⟩ | ⟨_, _, _, _, h1, _⟩
    · exact .inl ⟨rfl, h1⟩
    · exact absurd rfl h1
  · have bs := blp o0 t
    rw [← hs] at bs
    have bo := bl_nonneg o
    have hl := len_lim (v := o) (by omega) (bl o).toNat (bl_lt (by omega))
    have v := val_lim (n := o) (by omega)
    obtain ⟨d', h1, h2⟩ := make3_ev (decide (s < 0)) (lim o) (f + t) (U_lim (by omega)) (by omega) (by rw [v]; omega) (by omega) (by rw [v]; omega)
    rw [v] at h1
    refine ⟨d', ?_, h2⟩
    have h3 := h1.scale
    have e : sg (decide (s < 0)) o * 2 ^ t = s := by
      conv => rhs; rw [← sg_of s, hs]
      unfold sg
      split
      · rw [Int.neg_mul]
      · rfl
    rwa [e] at h3
/-- The sum of two with signs. -/
theorem add2_ev (na nb : Bool) {x y : Int} (x0 : 0 ≤ x) (y0 : 0 ≤ y) (n : Nat) (hn : n ≤ 2300000) (hx : x < 2 ^ n) (hy : y < 2 ^ n) :
    ∃ neg, (∃ K, ∀ k, K ≤ k → pelorusref02_Add k (na, lim x) (nb, lim y) = some ((neg, lim (sg na x + sg nb y).natAbs), ())) ∧ (sg na x + sg nb y ≠ 0 → neg = decide (sg na x + sg nb y < 0)) := by
  have lx := len_lim x0 n hx
  have ly := len_lim y0 n hy
  have vx := val_lim x0
  have vy := val_lim y0
  have ux := U_lim x0
  have uy := U_lim y0
  by_cases h : na = nb
  · subst h
    obtain ⟨K1, a⟩ := radd_ev (lim x) (lim y) ux uy (by omega) (by omega)
    rw [vx, vy] at a
    have hp := p2_succ n
    have l2 := len_lim (v := x + y) (by omega) (n + 1) (by omega)
    obtain ⟨K2, b⟩ := make2_ev na (lim (x + y)) (U_lim (by omega)) (by omega)
    rw [val_lim (n := x + y) (by omega)] at b
    have e : sg na x + sg na y = sg na (x + y) := by unfold sg; split <;> omega
    rw [e]
    refine ⟨na && decide (x + y ≠ 0), ⟨K1 + K2, fun k hk => ?_⟩, ?_⟩
    · simp only [pelorusref02_Add]
      rw [show (na == na) = true by simp, cond_true, a k (by omega), Option.bind_some, b k (by omega), Option.bind_some, sg_abs na (by omega)]
    · intro h
      by_cases z : x + y = 0
      · rw [z] at h; exact absurd (by unfold sg; split <;> rfl) h
      · rw [sg_lt na (by omega), decide_eq_true z, Bool.and_true]
  · have hq : (na == nb) = false := by simpa using h
    have hnb : nb = !na := by cases na <;> cases nb <;> simp_all
    obtain ⟨K1, a⟩ := rsub_ev (lim x) (lim y) ux uy (by omega) (by omega)
    rw [vx, vy] at a
    by_cases hlt : x < y
    · obtain ⟨K2, b⟩ := rsub_ev (lim y) (lim x) uy ux (by omega) (by omega)
      rw [vx, vy, if_neg (by omega)] at b
      rw [if_pos hlt] at a
      have l2 := len_lim (v := y - x) (by omega) n (by omega)
      obtain ⟨K3, c⟩ := make2_ev nb (lim (y - x)) (U_lim (by omega)) (by omega)
      rw [val_lim (n := y - x) (by omega)] at c
      have e : sg na x + sg nb y = sg nb (y - x) := by subst hnb; unfold sg; cases na <;> simp <;> omega
      rw [e]
      refine ⟨nb && decide (y - x ≠ 0), ⟨K1 + K2 + K3, fun k hk => ?_⟩, ?_⟩
      · simp only [pelorusref02_Add]
        rw [hq, cond_false, a k (by omega), Option.bind_some, cond_false, b k (by omega), Option.bind_some, c k (by omega), Option.bind_some, sg_abs nb (by omega)]
      · intro _
        rw [sg_lt nb (by omega), decide_eq_true (by omega), Bool.and_true]
    · rw [if_neg hlt] at a
      have l2 := len_lim (v := x - y) (by omega) n (by omega)
      obtain ⟨K3, c⟩ := make2_ev na (lim (x - y)) (U_lim (by omega)) (by omega)
      rw [val_lim (n := x - y) (by omega)] at c
      have e : sg na x + sg nb y = sg na (x - y) := by subst hnb; unfold sg; cases na <;> simp <;> omega
      rw [e]
      refine ⟨na && decide (x - y ≠ 0), ⟨K1 + K3, fun k hk => ?_⟩, ?_⟩
      · simp only [pelorusref02_Add]
        rw [hq, cond_false, a k (by omega), Option.bind_some, cond_true, c k (by omega), Option.bind_some, sg_abs na (by omega)]
      · intro h
        by_cases z : x - y = 0
        · rw [z] at h; exact absurd (by unfold sg; split <;> rfl) h
        · rw [sg_lt na (by omega), decide_eq_true z, Bool.and_true]
/-- The sum of two exact numbers of one power of two. -/
theorem two_ev {p q : Dd} {s r f : Int} (hp : Rep p s f) (hq : Rep q r f) (n : Nat) (hn : n ≤ 2200000) (hs : bl s.natAbs ≤ n) (hr : bl r.natAbs ≤ n) (f0 : -1900000 ≤ f) (f1 : f ≤ 1900000) :
    ∃ d, Rep d (s + r) f ∧ ∃ K, ∀ k, K ≤ k → pelorusref03_Two k (dd p) (dd q) = some (dd d, ()) := by
  obtain ⟨a, ha, K1, h1⟩ := rep_make hp (by omega) (by omega) (by omega)
  obtain ⟨b, hb, K2, h2⟩ := rep_make hq (by omega) (by omega) (by omega)
  have h1 : ∀ k, K1 ≤ k → pelorusref03_Make k (dd p).1 (dd p).2 = some (dd a, ()) := h1
  have h2 : ∀ k, K2 ≤ k → pelorusref03_Make k (dd q).1 (dd q).2 = some (dd b, ()) := h2
  rcases ha with ⟨rfl, rfl⟩ | ⟨o, t, o0, o1, s0, ho, rfl⟩
  · refine ⟨b, by rw [Int.zero_add]; exact hb, K1 + K2, fun k hk => ?_⟩
    simp only [pelorusref03_Two]
    rw [h1 k (by omega), Option.bind_some, h2 k (by omega), Option.bind_some]
    rfl
  rcases hb with ⟨rfl, rfl⟩ | ⟨o', t', o0', o1', r0, ho', rfl⟩
  · refine ⟨(decide (s < 0), lim o, f + t), by rw [Int.add_zero]; exact .inr ⟨o, t, o0, o1, s0, ho, rfl⟩, K1 + K2, fun k hk => ?_⟩
    have := lim_nil_iff (n := o) (by omega)
    have c1 : ¬ ((lim o).length : Int) = 0 := by omega
    simp only [pelorusref03_Two]
    rw [h1 k (by omega), Option.bind_some, h2 k (by omega), Option.bind_some]
    simp only [dd, beq_f c1, cond_false]
    rfl
  have bo := blp o0 t
  have bo' := blp o0' t'
  rw [← ho] at bo
  rw [← ho'] at bo'
  have po := bl_pos o0
  have po' := bl_pos o0'
  -- the sum of two of which the first one's power is not the greater one
  have key : ∀ (s r o o' : Int) (t t' : Nat), t ≤ t' → 0 < o → 0 < o' → s ≠ 0 → r ≠ 0 → (s.natAbs : Int) = o * 2 ^ t → (r.natAbs : Int) = o' * 2 ^ t' → bl s.natAbs ≤ n → bl r.natAbs ≤ n →
      ∃ d, Rep d (s + r) f ∧ ∃ K, ∀ k, K ≤ k → ((pelorusref01_Shl k (lim o') (IntKind.i64.wrap ((f + t') - (f + t)))).bind fun r7 =>
        (pelorusref02_Make k (decide (r < 0)) r7.1).bind fun r8 =>
        (pelorusref02_Add k (decide (s < 0), lim o) r8.1).bind fun r9 =>
        (pelorusref03_Make k r9.1 (f + t)).bind fun r10 =>
        some (r10.1, ())) = some (dd d, ()) := by
    intro s r o o' t t' htt o0 o0' s0 r0 ho ho' hs hr
    obtain ⟨j, rfl⟩ := Nat.le.dest htt
    have bo := blp o0 t
    have bo' := blp o0' (t + j)
    rw [← ho] at bo
    rw [← ho'] at bo'
    have po := bl_pos o0
    have po' := bl_pos o0'
    have bj := blp o0' j
    have lo' := len_lim (v := o') (by omega) (bl o').toNat (bl_lt (by omega))
    obtain ⟨K3, c⟩ := rshl_ev (lim o') j (U_lim (by omega)) (by omega)
    rw [val_lim (by omega), shlv_eq (by omega) (by omega), Int.toNat_natCast] at c
    have pj := p2_pos j
    have y0 : 0 < o' * 2 ^ j := Int.mul_pos o0' pj
    have ly := len_lim (v := o' * 2 ^ j) (by omega) (bl (o' * 2 ^ j)).toNat (bl_lt (by omega))
    obtain ⟨K4, e⟩ := make2_ev (decide (r < 0)) (lim (o' * 2 ^ j)) (U_lim (by omega)) (by omega)
    rw [val_lim (by omega)] at e
    have hx := bl_lt (n := o) (by omega)
    have hy := bl_lt (n := o' * 2 ^ j) (by omega)
    have m1 := p2_mono (show (bl o).toNat ≤ n by omega)
    have m2 := p2_mono (show (bl (o' * 2 ^ j)).toNat ≤ n by omega)
    obtain ⟨neg, ⟨K5, g⟩, gn⟩ := add2_ev (decide (s < 0)) (decide (r < 0)) (x := o) (y := o' * 2 ^ j) (by omega) (by omega) n (by omega) (by omega) (by omega)
    -- the sum at the lesser power
    have eS : (sg (decide (s < 0)) o + sg (decide (r < 0)) (o' * 2 ^ j)) * 2 ^ t = s + r := by
      rw [Int.add_mul, ← sg_mulr, ← sg_mulr, ← ho, Int.mul_assoc, ← p2_add, Nat.add_comm j t, ← ho', sg_of, sg_of]
    generalize hS : sg (decide (s < 0)) o + sg (decide (r < 0)) (o' * 2 ^ j) = S at *
    have pn := p2_succ n
    have aS : (S.natAbs : Int) < 2 ^ (n + 1) := by
      have a1 := sg_abs (decide (s < 0)) (v := o) (by omega)
      have a2 := sg_abs (decide (r < 0)) (v := o' * 2 ^ j) (by omega)
      omega
    have bS := bl_le aS
    have bS0 := bl_nonneg (S.natAbs : Int)
    have lS := len_lim (v := (S.natAbs : Int)) (by omega) (n + 1) aS
    have bSt : bl (S.natAbs : Int) + t ≤ n + 1 ∨ bl (S.natAbs : Int) = 0 := by
      by_cases z : S = 0
      · right; rw [z]; rfl
      · left
        have hs' := natAbs_lt_p hs
        have hr' := natAbs_lt_p hr
        have e3 : ((s + r).natAbs : Int) = (S.natAbs : Int) * 2 ^ t := by
          rw [← eS, Int.natAbs_mul, Int.natCast_mul]
          rw [show ((((2 : Int) ^ t).natAbs : Nat) : Int) = 2 ^ t from Int.natAbs_of_nonneg (by have := p2_pos t; omega)]
        have b3 := bl_le (n := ((s + r).natAbs : Int)) (m := n + 1) (by omega)
        rw [e3, blp (by omega) t] at b3
        omega
    have hbnd : f + t + bl (S.natAbs : Int) ≤ 4194304 := by omega
    obtain ⟨d, hd, K6, m⟩ := make3_ev neg (lim S.natAbs) (f + t) (U_lim (by omega)) (by omega) (by rw [val_lim (by omega)]; omega) (by omega) (by rw [val_lim (by omega)]; exact hbnd)
    rw [val_lim (by omega)] at hd
    have e2 : sg neg (S.natAbs : Int) = S := by
      by_cases z : S = 0
      · rw [z]; cases neg <;> rfl
      · rw [gn z]; exact sg_of S
    rw [e2] at hd
    refine ⟨d, by rw [← eS]; exact hd.scale, K3 + K4 + K5 + K6 + 1, fun k hk => ?_⟩
    have w : IntKind.i64.wrap (f + ((t + j : Nat) : Int) - (f + t)) = (j : Int) := by rw [w64 (by omega) (by omega)]; omega
    have z : decide (o' * 2 ^ j ≠ 0) = true := decide_eq_true (by omega)
    rw [w, c k (by omega), Option.bind_some, e k (by omega), Option.bind_some]
    simp only [z, Bool.and_true]
    rw [g k (by omega), Option.bind_some, m k (by omega), Option.bind_some]
  have n1 := lim_nil_iff (n := o) (by omega)
  have n2 := lim_nil_iff (n := o') (by omega)
  have c1 : ¬ ((lim o).length : Int) = 0 := by omega
  have c2 : ¬ ((lim o').length : Int) = 0 := by omega
  by_cases hc : t ≤ t'
  · obtain ⟨d, hd, K3, h3⟩ := key s r o o' t t' hc o0 o0' s0 r0 ho ho' hs hr
    refine ⟨d, hd, K1 + K2 + K3, fun k hk => ?_⟩
    have c3 : ¬ f + (t : Int) > f + (t' : Int) := by omega
    simp only [pelorusref03_Two]
    rw [h1 k (by omega), Option.bind_some, h2 k (by omega), Option.bind_some]
    simp only [dd, beq_f c1, beq_f c2, cond_false]
    refine (cond_f c3 _ _).trans ?_
    exact h3 k (by omega)
  · obtain ⟨d, hd, K3, h3⟩ := key r s o' o t' t (by omega) o0' o0 r0 s0 ho' ho hr hs
    refine ⟨d, by rw [Int.add_comm]; exact hd, K1 + K2 + K3, fun k hk => ?_⟩
    have c3 : f + (t : Int) > f + (t' : Int) := by omega
    simp only [pelorusref03_Two]
    rw [h1 k (by omega), Option.bind_some, h2 k (by omega), Option.bind_some]
    simp only [dd, beq_f c1, beq_f c2, cond_false]
    refine (cond_t c3 _ _).trans ?_
    exact h3 k (by omega)
theorem fin5_eq (k : Nat) (neg : Bool) (m e : Int) (away : Bool) : pelorusref05_finite k neg m e away = some (bnd neg m e away, ()) := by
  simp only [pelorusref05_finite, bnd, rInf_eq, Option.bind_some, cond_eq_ite, decide_eq_true_eq]
  by_cases h : e > 1048576
  · cases away <;> simp [h]
  · by_cases h2 : e < -1048576
    · cases away <;> simp [h, h2]
    · simp [h, h2]
theorem word_loop (k : Nat) (l : List Int) (hu : U l) (hb : l.length ≤ 2) : ∀ (n m : Nat) (x : Int), n < m → n ≤ l.length → x = val (l.drop n) → pelorusref05_word_l0 k m ((l, x, (n : Int) - 1, ()), ()) = some (Sum.inl ((val l, ()), ())) := by
  intro n
  induction n with
  | zero =>
    intro m x hm hn hx
    obtain ⟨m, rfl⟩ : ∃ i, m = i + 1 := ⟨m - 1, by omega⟩
    have e : ¬ ((0 : Nat) : Int) - 1 ≥ 0 := by decide
    simp only [pelorusref05_word_l0, cond_f e]
    rw [hx, List.drop_zero]
  | succ n ih =>
    intro m x hm hn hx
    obtain ⟨m, rfl⟩ : ∃ i, m = i + 1 := ⟨m - 1, by omega⟩
    have e : ((n + 1 : Nat) : Int) - 1 = (n : Int) := by omega
    have e' : (n : Int) ≥ 0 := by omega
    have hg := U_getD hu n
    have hd := val_lt (U_drop hu (n + 1))
    have hd0 := val_nonneg (U_drop hu (n + 1))
    rw [List.length_drop] at hd
    have hp : pw (l.length - (n + 1)) ≤ 4294967296 := pw_mono (show l.length - (n + 1) ≤ 1 by omega)
    rw [← hx] at hd hd0
    have w1 : IntKind.u64.wrap (x * 4294967296) = x * 4294967296 := u64w (by omega) (by omega)
    have w2 : IntKind.u64.wrap (l.getD n 0) = l.getD n 0 := u64w (by omega) (by omega)
    have w3 : IntKind.u64.wrap (x * 4294967296 + l.getD n 0) = x * 4294967296 + l.getD n 0 := u64w (by omega) (by omega)
    have w4 : IntKind.i64.wrap ((n : Int) - 1) = (n : Int) - 1 := w64 (by omega) (by omega)
    simp only [pelorusref05_word_l0, e, cond_t e', if_pos (Int.natCast_nonneg n), Int.toNat_natCast, gd (show n < l.length by omega), Option.bind_some, w1, w2, w3, w4]
    exact ih m _ (by omega) (by omega) (by rw [val_drop', hx]; omega)
theorem word_ev {v : Int} (h0 : 0 ≤ v) (h1 : v < 18446744073709551616) : ∃ K, ∀ k, K ≤ k → pelorusref05_word k (lim v) = some (v, ()) := by
  have hl := lim_len h0 2 (by rw [show pw 2 = 18446744073709551616 by decide]; exact h1)
  refine ⟨4, fun k hk => ?_⟩
  have h := word_loop k (lim v) (U_lim h0) hl (lim v).length k 0 (by omega) (Nat.le_refl _) (by rw [List.drop_length]; rfl)
  rw [val_lim h0] at h
  simp only [pelorusref05_word]
  rw [w64 (by omega) (by omega), h]
  rfl
/-- What a finite number is, exactly. -/
theorem exact_ev (neg : Bool) {m e : Int} (m0 : 9223372036854775808 ≤ m) (m1 : m < 18446744073709551616) (e0 : -1048576 ≤ e) (e1 : e ≤ 1048576) :
    ∃ d, Rep d (sg neg m) e ∧ ∃ K, ∀ k, K ≤ k → pelorusref05_Exact k (1, neg, m, e) = some (dd d, true, ()) := by
  have hu : U [m % 4294967296, m / 4294967296] := by simp [U]; omega
  have hv : val [m % 4294967296, m / 4294967296] = m := by simp; omega
  have bm := bl_le (n := m) (m := 64) (by rw [p64]; exact m1)
  have bm0 := bl_pos (n := m) (by omega)
  obtain ⟨K1, h1⟩ := make2_ev neg [m % 4294967296, m / 4294967296] hu (by simp)
  rw [hv, decide_eq_true (by omega), Bool.and_true] at h1
  have ll := len_lim (v := m) (by omega) 64 (by rw [p64]; exact m1)
  obtain ⟨d, hd, K2, h2⟩ := make3_ev neg (lim m) e (U_lim (by omega)) (by omega) (by rw [val_lim (by omega)]; omega) (by omega) (by rw [val_lim (by omega)]; omega)
  rw [val_lim (by omega)] at hd
  refine ⟨d, hd, K1 + K2 + 1, fun k hk => ?_⟩
  have hmay : may (1, neg, m, e) = true := may_of (.inr (.inl ⟨rfl, m0, m1, e0, e1⟩))
  have w1 : IntKind.u32.wrap (Int.tmod m 4294967296) = m % 4294967296 := by rw [Int.tmod_eq_emod_of_nonneg (by omega), u32w (by omega) (by omega)]
  have w2 : IntKind.u32.wrap (IntKind.u64.wrap (Int.tdiv m 4294967296)) = m / 4294967296 := by rw [Int.tdiv_eq_ediv_of_nonneg (by omega), u64w (by omega) (by omega), u32w (by omega) (by omega)]
  simp only [pelorusref05_Exact, rnum_May_eq, hmay, Option.bind_some, Bool.not_true, cond_false, i12, i10, pelorusref05_limbs, w1, w2]
  rw [h1 k (by omega), Option.bind_some, h2 k (by omega), Option.bind_some]
theorem exact0_ev (k : Nat) : pelorusref05_Exact k zN = some (dd (false, [], 0), true, ()) := by
  simp only [pelorusref05_Exact, rnum_May_eq, Option.bind_some]
  rfl
/-- Rounded. -/
theorem round_ev {d : Dd} {s f : Int} (hd : Rep d s f) (up : Bool) (hs : bl s.natAbs ≤ 2300000) (f0 : -3000000 ≤ f) (f1 : f + bl s.natAbs ≤ 4100000) :
    ∃ K, ∀ k, K ≤ k → pelorusref05_Round k (dd d) up = some (rnz s f up, ()) := by
  obtain ⟨a, ha, K1, h1⟩ := rep_make hd (by omega) (by omega) (by omega)
  have h1 : ∀ k, K1 ≤ k → pelorusref03_Make k (dd d).1 (dd d).2 = some (dd a, ()) := h1
  rcases ha with ⟨rfl, rfl⟩ | ⟨o, t, o0, o1, s0, ho, rfl⟩
  · refine ⟨K1, fun k hk => ?_⟩
    simp only [pelorusref05_Round]
    rw [h1 k hk, Option.bind_some]
    rfl
  have bo := blp o0 t
  rw [← ho] at bo
  have po := bl_pos o0
  have lo := len_lim (v := o) (by omega) (bl o).toNat (bl_lt (by omega))
  have er : rnz s f up = rnd (decide (s < 0)) o (f + t) (up != decide (s < 0)) := by
    unfold rnz
    rw [if_neg s0, ho, rnd_scale o0]
  have nl := lim_nil_iff (n := o) (by omega)
  have c1 : ¬ ((lim o).length : Int) = 0 := by omega
  obtain ⟨K2, h2⟩ := rlen_ev (lim o) (U_lim (by omega)) (by omega)
  rw [val_lim (by omega)] at h2
  rw [er]
  generalize hneg : decide (s < 0) = neg
  rw [hneg] at h1
  have ne : (!(up == neg)) = (up != neg) := rfl
  have w1 : IntKind.i64.wrap (IntKind.i64.wrap (f + (t : Int) + bl o) - 64) = f + t + bl o - 64 := by rw [w64 (x := f + (t : Int) + bl o) (by omega) (by omega), w64 (by omega) (by omega)]
  by_cases hb : bl o ≤ 64
  · obtain ⟨j, hj⟩ : ∃ j : Nat, 64 - bl o = j := ⟨(64 - bl o).toNat, by omega⟩
    have w : IntKind.i64.wrap (64 - bl o) = (j : Int) := by rw [w64 (by omega) (by omega)]; omega
    obtain ⟨K3, h3⟩ := rshl_ev (lim o) j (U_lim (by omega)) (by omega)
    rw [val_lim (by omega), shlv_eq (by omega) (by omega), Int.toNat_natCast] at h3
    have pj := p2_pos j
    have v0 := Int.mul_pos o0 pj
    have v1 := mul_lt_p j (bl_lt (n := o) (by omega))
    rw [← p2_add, show (bl o).toNat + j = 64 by omega, p64] at v1
    obtain ⟨K4, h4⟩ := word_ev (v := o * 2 ^ j) (by omega) v1
    refine ⟨K1 + K2 + K3 + K4, fun k hk => ?_⟩
    simp only [pelorusref05_Round]
    rw [h1 k (by omega), Option.bind_some]
    simp only [dd, beq_f c1, cond_false, h2 k (by omega), Option.bind_some, cond_t hb, w, h3 k (by omega), h4 k (by omega), fin5_eq, w1, ne]
    unfold rnd
    rw [if_pos hb, hj, Int.toNat_natCast]
  · obtain ⟨j, hj⟩ : ∃ j : Nat, bl o - 64 = (j + 1 : Nat) := ⟨(bl o - 65).toNat, by omega⟩
    have w : IntKind.i64.wrap (bl o - 64) = ((j + 1 : Nat) : Int) := by rw [w64 (by omega) (by omega)]; omega
    obtain ⟨K3, h3⟩ := rshr_ev (lim o) ((j + 1 : Nat) : Int) (U_lim (by omega)) (by omega)
    rw [val_lim (by omega), shrv_eq (by omega), Int.toNat_natCast] at h3
    have pj := p2_pos (j + 1)
    have q0 := Int.le_ediv_of_mul_le (a := 9223372036854775808) (b := o) pj (by
      have := bl_ge o0
      rw [show (bl o - 1).toNat = 63 + (j + 1) by omega, p2_add, p63] at this
      exact this)
    have q1 := Int.ediv_lt_of_lt_mul (a := o) (b := 18446744073709551616) pj (by
      have := bl_lt (n := o) (by omega)
      rw [show (bl o).toNat = 64 + (j + 1) by omega, p2_add, p64] at this
      exact this)
    have cut : decide (o % 2 ^ (j + 1) ≠ 0) = true := by
      refine decide_eq_true fun h => ?_
      have := Int.mul_ediv_add_emod o (2 ^ (j + 1))
      rw [h, p2_succ, Int.mul_assoc] at this
      omega
    have er2 : rnd neg o (f + t) (up != neg) = grw neg (o / 2 ^ (j + 1)) (f + t + bl o - 64) true (up != neg) := by
      unfold rnd
      rw [if_neg hb, hj, Int.toNat_natCast, cut]
    rw [er2]
    generalize hq : o / 2 ^ (j + 1) = q at *
    have lq := len_lim (v := q) (by omega) 64 (by rw [p64]; exact q1)
    cases haw : (up != neg)
    · obtain ⟨K4, h4⟩ := word_ev (v := q) (by omega) q1
      refine ⟨K1 + K2 + K3 + K4, fun k hk => ?_⟩
      simp only [pelorusref05_Round]
      rw [h1 k (by omega), Option.bind_some]
      simp only [dd, beq_f c1, cond_false, h2 k (by omega), Option.bind_some, cond_f hb, w, h3 k (by omega), ne, haw, h4 k (by omega), fin5_eq, w1]
      unfold grw
      rw [if_neg (by simp)]
    · obtain ⟨K4, h4⟩ := radd_ev (lim q) [1] (U_lim (by omega)) (U_single (by decide) (by decide)) (by omega) (by simp)
      rw [val_lim (by omega), show val [1] = 1 by simp] at h4
      have lq1 := len_lim (v := q + 1) (by omega) 65 (by rw [show (2 : Int) ^ 65 = 36893488147419103232 by decide]; omega)
      obtain ⟨K5, h5⟩ := rlen_ev (lim (q + 1)) (U_lim (by omega)) (by omega)
      rw [val_lim (by omega)] at h5
      by_cases hc : q + 1 = 18446744073709551616
      · have b65 : bl (q + 1) = 65 := by rw [hc]; decide +kernel
        have cb : bl (q + 1) > 64 := by omega
        obtain ⟨K6, h6⟩ := rshr_ev (lim (q + 1)) 1 (U_lim (by omega)) (by omega)
        rw [val_lim (by omega), show shrv (q + 1) 1 = 9223372036854775808 by rw [hc]; decide +kernel] at h6
        obtain ⟨K7, h7⟩ := word_ev (v := 9223372036854775808) (by decide) (by decide)
        refine ⟨K1 + K2 + K3 + K4 + K5 + K6 + K7, fun k hk => ?_⟩
        have w2 : IntKind.i64.wrap (f + t + bl o - 64 + 1) = f + t + bl o - 64 + 1 := w64 (by omega) (by omega)
        simp only [pelorusref05_Round]
        rw [h1 k (by omega), Option.bind_some]
        simp only [dd, beq_f c1, cond_false, h2 k (by omega), Option.bind_some, cond_f hb, w, h3 k (by omega), ne, haw, cond_true, h4 k (by omega), h5 k (by omega), cond_t cb, h6 k (by omega), h7 k (by omega), fin5_eq, w1, w2]
        unfold grw
        rw [if_pos ⟨rfl, rfl⟩, if_pos hc]
      · have b64 := bl_le (n := q + 1) (m := 64) (by rw [p64]; omega)
        have cb : ¬ bl (q + 1) > 64 := by omega
        obtain ⟨K7, h7⟩ := word_ev (v := q + 1) (by omega) (by omega)
        refine ⟨K1 + K2 + K3 + K4 + K5 + K7, fun k hk => ?_⟩
        simp only [pelorusref05_Round]
        rw [h1 k (by omega), Option.bind_some]
        simp only [dd, beq_f c1, cond_false, h2 k (by omega), Option.bind_some, cond_f hb, w, h3 k (by omega), ne, haw, cond_true, h4 k (by omega), h5 k (by omega), cond_f cb, h7 k (by omega), fin5_eq, w1]
        unfold grw
        rw [if_pos ⟨rfl, rfl⟩, if_neg hc]
/-! ### the document's sums and products of numbers are the code's -/
theorem ex_ev {a : Nm} (ha : mayP a) (h2 : a.1 ≠ 2) : ∃ d, (∀ j : Nat, Rep d (sv a * 2 ^ j) (a.2.2.2 - j)) ∧ -18446744073709551616 < sv a ∧ sv a < 18446744073709551616 ∧ ∃ K, ∀ k, K ≤ k → pelorusref05_Exact k a = some (dd d, true, ()) := by
  obtain ⟨a1, a2, a3, a4⟩ := a
  rcases ha with ⟨h1, q2, q3, q4⟩ | ⟨h1, q2, q3, q4, q5⟩ | ⟨h1, _⟩ <;> simp only at h1
  · simp only at q2 q3 q4
    subst h1 q2 q3 q4
    refine ⟨(false, [], 0), fun j => .inl ⟨?_, rfl⟩, by decide, by decide, 1, fun k hk => exact0_ev k⟩
    show 0 * 2 ^ j = 0
    omega
  · subst h1
    simp only at q2 q3 q4 q5
    obtain ⟨d, hd, hK⟩ := exact_ev a2 q2 q3 q4 q5
    have e : sv (1, a2, a3, a4) = sg a2 a3 := rfl
    have b := sg_bd a2 (by omega) q3
    refine ⟨d, fun j => ?_, by rw [e]; exact b.1, by rw [e]; exact b.2, hK⟩
    rw [e]
    refine Rep.scale j ?_
    rw [show a4 - (j : Int) + j = a4 by omega]
    exact hd
  · exact absurd h1 h2
theorem exp_bd {a : Nm} (ha : mayP a) : -1048576 ≤ a.2.2.2 ∧ a.2.2.2 ≤ 1048576 := by
  rcases ha with ⟨_, _, _, h⟩ | ⟨_, _, _, h⟩ | ⟨_, _, h⟩
  · omega
  · exact h
  · omega
theorem addP_ev (a b : Nm) (up : Bool) (ma : mayP a) (mb : mayP b) (za : a.1 ≠ 2) (zb : b.1 ≠ 2) : ∃ K, ∀ k, K ≤ k → ∃ p q d, pelorusref05_Exact k a = some (p, true, ()) ∧ pelorusref05_Exact k b = some (q, true, ()) ∧ pelorusref03_Two k p q = some (d, ()) ∧ pelorusref05_Round k d up = some (addv a b up, ()) := by
  have fa := exp_bd ma
  have fb := exp_bd mb
  obtain ⟨i, j, f, hi, hj, hf, bi, bj⟩ : ∃ (i j : Nat) (f : Int), f = a.2.2.2 - i ∧ f = b.2.2.2 - j ∧ f = min a.2.2.2 b.2.2.2 ∧ i ≤ 2097152 ∧ j ≤ 2097152 := ⟨(a.2.2.2 - min a.2.2.2 b.2.2.2).toNat, (b.2.2.2 - min a.2.2.2 b.2.2.2).toNat, min a.2.2.2 b.2.2.2, by omega, by omega, rfl, by omega, by omega⟩
  obtain ⟨p, hp, pa0, pa1, K1, h1⟩ := ex_ev ma za
  obtain ⟨q, hq, qb0, qb1, K2, h2⟩ := ex_ev mb zb
  have hp := hp i
  have hq := hq j
  rw [← hi] at hp
  rw [← hj] at hq
  obtain ⟨B, hB⟩ : ∃ B : Nat, B = 2097216 := ⟨_, rfl⟩
  have bd : ∀ (s : Int) (i : Nat), i ≤ 2097152 → -18446744073709551616 < s → s < 18446744073709551616 → -(2 ^ B) < s * 2 ^ i ∧ s * 2 ^ i < 2 ^ B := fun s i hi h0 h1 => by
    have pi := p2_pos i
    have m := p2_mono (show 64 + i ≤ B by omega)
    rw [p2_add, p64] at m
    have a1 := mul_lt_p i h1
    have a2 := mul_lt_p i h0
    rw [Int.neg_mul] at a2
    omega
  have ba := bd _ _ bi pa0 pa1
  have bb := bd _ _ bj qb0 qb1
  obtain ⟨d, hd, K3, h3⟩ := two_ev hp hq B (by omega) (bl_abs ba.1 ba.2) (bl_abs bb.1 bb.2) (by omega) (by omega)
  have e65 : (2 : Int) ^ (B + 1) = 2 * 2 ^ B := p2_succ B
  have bs := bl_abs (s := sv a * 2 ^ i + sv b * 2 ^ j) (n := B + 1) (by omega) (by omega)
  obtain ⟨K4, h4⟩ := round_ev hd up (by omega) (by omega) (by omega)
  rw [addv_sv ma mb za zb up i j f hi hj hf] at h4
  exact ⟨K1 + K2 + K3 + K4, fun k hk => ⟨_, _, _, h1 k (by omega), h2 k (by omega), h3 k (by omega), h4 k (by omega)⟩⟩
theorem add6_ev (a b : Nm) (up : Bool) (ha : wfN a) (hb : wfN b) : ∃ K, ∀ k, K ≤ k → pelorusref06_Add k a b up = some (addv (fair a) (fair b) up, ()) := by
  have ma := fair_wf ha
  have mb := fair_wf hb
  have ea : ∀ k, pelorusref06_Fair k a = some (fair a, ()) := fun k => r6Fair_eq k a
  have eb : ∀ k, pelorusref06_Fair k b = some (fair b, ()) := fun k => r6Fair_eq k b
  by_cases za : (fair a).1 = 2
  · refine ⟨0, fun k _ => ?_⟩
    simp only [pelorusref06_Add, ea, eb, Option.bind_some, rInf_eq]
    rw [beq_t za, cond_true, cond_true]
    unfold addv
    by_cases zb : (fair b).1 = 2
    · rw [beq_t zb, cond_true]
      by_cases hn : (fair a).2.1 = (fair b).2.1
      · simp [za, zb, hn]
      · have e : ((fair a).2.1 == (fair b).2.1) = false := by simpa using hn
        rw [e]
        simp [za, zb, hn]
    · rw [beq_f zb, cond_false]
      simp [za, zb]
  by_cases zb : (fair b).1 = 2
  · refine ⟨0, fun k _ => ?_⟩
    simp only [pelorusref06_Add, ea, eb, Option.bind_some, rInf_eq]
    rw [beq_f za, cond_false, cond_false, beq_t zb, cond_true]
    unfold addv
    simp [za, zb]
  obtain ⟨K, hK⟩ := addP_ev (fair a) (fair b) up ma mb za zb
  refine ⟨K, fun k hk => ?_⟩
  obtain ⟨p, q, d, h1, h2, h3, h4⟩ := hK k hk
  simp only [pelorusref06_Add, ea, eb, Option.bind_some]
  rw [beq_f za, cond_false, cond_false, beq_f zb, cond_false, h1, Option.bind_some, h2, Option.bind_some, h3, Option.bind_some, h4]
  rfl
/-- The product of two exact numbers. -/
theorem mul3_ev {p q : Dd} {s r f g : Int} (hp : Rep p s f) (hq : Rep q r g) (hs : bl s.natAbs ≤ 40000) (hr : bl r.natAbs ≤ 40000) (f0 : -2000000 ≤ f) (f1 : f ≤ 2000000) (g0 : -2000000 ≤ g) (g1 : g ≤ 2000000) :
    ∃ d, Rep d (s * r) (f + g) ∧ ∃ K, ∀ k, K ≤ k → pelorusref03_Mul k (dd p) (dd q) = some (dd d, ()) := by
  obtain ⟨a, ha, K1, h1⟩ := rep_make hp (by omega) (by omega) (by omega)
  obtain ⟨b, hb, K2, h2⟩ := rep_make hq (by omega) (by omega) (by omega)
  have h1 : ∀ k, K1 ≤ k → pelorusref03_Make k (dd p).1 (dd p).2 = some (dd a, ()) := h1
  have h2 : ∀ k, K2 ≤ k → pelorusref03_Make k (dd q).1 (dd q).2 = some (dd b, ()) := h2
  -- each as a sign, a value and a power
  have key : ∀ {a : Dd} {s f : Int}, Rep a s f → bl s.natAbs ≤ 40000 → -2000000 ≤ f → f ≤ 2000000 → ∃ (n : Bool) (o e : Int) (t : Nat), a = (n, lim o, e) ∧ 0 ≤ o ∧ bl o ≤ 40000 ∧ -2000000 ≤ e ∧ e ≤ 2040000 ∧ (s = 0 ∧ o = 0 ∨ e = f + t ∧ sg n o * 2 ^ t = s) := by
    intro a s f h hb f0 f1
    rcases h with ⟨rfl, rfl⟩ | ⟨o, t, o0, o1, s0, ho, rfl⟩
    · exact ⟨false, 0, 0, 0, by rw [show lim 0 = [] from limN_zero], by decide, by decide, by decide, by decide, .inl ⟨rfl, rfl⟩⟩
    · have bo := blp o0 t
      rw [← ho] at bo
      have := bl_nonneg o
      refine ⟨_, o, _, t, rfl, by omega, by omega, by omega, by omega, .inr ⟨rfl, ?_⟩⟩
      rw [← sg_mulr, ← ho, sg_of]
  obtain ⟨n, o, e, t, rfl, o0, bo, e0, e1, hk⟩ := key ha hs f0 f1
  obtain ⟨n', o', e', t', rfl, o0', bo', e0', e1', hk'⟩ := key hb hr g0 g1
  have lo := len_lim (v := o) o0 40000 (Int.lt_of_lt_of_le (bl_lt o0) (p2_mono (by omega)))
  have lo' := len_lim (v := o') o0' 40000 (Int.lt_of_lt_of_le (bl_lt o0') (p2_mono (by omega)))
  obtain ⟨K3, h3⟩ := rmul_ev (lim o) (lim o') (U_lim o0) (U_lim o0') (by omega)
  rw [val_lim o0, val_lim o0'] at h3
  have oo0 := Int.mul_nonneg o0 o0'
  have oo1 : o * o' < 2 ^ 80000 := by
    have a1 := Int.lt_of_lt_of_le (bl_lt o0) (p2_mono (show (bl o).toNat ≤ 40000 by omega))
    have a2 := Int.lt_of_lt_of_le (bl_lt o0') (p2_mono (show (bl o').toNat ≤ 40000 by omega))
    have a3 := Int.mul_le_mul_of_nonneg_right (show o ≤ 2 ^ 40000 by omega) o0'
    have a4 := Int.mul_lt_mul_of_pos_left a2 (p2_pos 40000)
    rw [← p2_add] at a4
    exact Int.lt_of_le_of_lt a3 a4
  have loo := len_lim oo0 80000 oo1
  have boo := bl_le oo1
  have boo0 := bl_nonneg (o * o')
  obtain ⟨K4, h4⟩ := make2_ev (n != n') (lim (o * o')) (U_lim oo0) (by omega)
  rw [val_lim oo0] at h4
  obtain ⟨d, hd, K5, h5⟩ := make3_ev ((n != n') && decide (o * o' ≠ 0)) (lim (o * o')) (e + e') (U_lim oo0) (by omega) (by rw [val_lim oo0]; omega) (by omega) (by rw [val_lim oo0]; omega)
  rw [val_lim oo0] at hd
  refine ⟨d, ?_, K1 + K2 + K3 + K4 + K5, fun k hk => ?_⟩
  · have sgz : ∀ b : Bool, sg b 0 = 0 := fun b => by cases b <;> rfl
    have es : sg ((n != n') && decide (o * o' ≠ 0)) (o * o') = sg n o * sg n' o' := by
      by_cases z : o * o' = 0
      · rw [z, sgz]
        rcases Int.mul_eq_zero.1 z with z | z
        · rw [z, sgz, Int.zero_mul]
        · rw [z, sgz, Int.mul_zero]
      · rw [decide_eq_true z, Bool.and_true]
        unfold sg
        cases n <;> cases n' <;> simp [Int.neg_mul, Int.mul_neg]
    rw [es] at hd
    rcases hk with ⟨rfl, rfl⟩ | ⟨rfl, rfl⟩
    · rw [sgz, Int.zero_mul] at hd
      rw [Int.zero_mul]
      rcases hd with ⟨_, hd⟩ | ⟨_, _, _, _, hd, _⟩
      · exact .inl ⟨rfl, hd⟩
      · exact absurd rfl hd
    · rcases hk' with ⟨rfl, rfl⟩ | ⟨rfl, rfl⟩
      · rw [sgz, Int.mul_zero] at hd
        rw [Int.mul_zero]
        rcases hd with ⟨_, hd⟩ | ⟨_, _, _, _, hd, _⟩
        · exact .inl ⟨rfl, hd⟩
        · exact absurd rfl hd
      · have e2 : sg n o * 2 ^ t * (sg n' o' * 2 ^ t') = sg n o * sg n' o' * 2 ^ (t + t') := by rw [p2_add]; grind
        rw [e2]
        refine Rep.scale (t + t') ?_
        rw [show f + g + ((t + t' : Nat) : Int) = f + t + (g + t') by omega]
        exact hd
  · have ne : (!(n == n')) = (n != n') := rfl
    have w : IntKind.i64.wrap (e + e') = e + e' := w64 (by omega) (by omega)
    simp only [pelorusref03_Mul]
    rw [h1 k (by omega), Option.bind_some, h2 k (by omega), Option.bind_some]
    simp only [pelorusref02_Two, dd, ne]
    rw [h3 k (by omega), Option.bind_some, h4 k (by omega), Option.bind_some, Option.bind_some]
    simp only [w]
    rw [h5 k (by omega)]
    rfl
theorem mul6_ev (a b : Nm) (up : Bool) (ha : wfN a) (hb : wfN b) : ∃ K, ∀ k, K ≤ k → pelorusref06_Mul k a b up = some (mulv (fair a) (fair b) up, ()) := by
  have ma := fair_wf ha
  have mb := fair_wf hb
  have ea : ∀ k, pelorusref06_Fair k a = some (fair a, ()) := fun k => r6Fair_eq k a
  have eb : ∀ k, pelorusref06_Fair k b = some (fair b, ()) := fun k => r6Fair_eq k b
  generalize fair a = x at *
  generalize fair b = y at *
  by_cases za : x.1 = 0
  · refine ⟨0, fun k _ => ?_⟩
    simp only [pelorusref06_Mul, ea, eb, Option.bind_some]
    rw [beq_t za, cond_true]
    unfold mulv
    rw [if_pos (.inl za)]
  by_cases zb : y.1 = 0
  · refine ⟨0, fun k _ => ?_⟩
    simp only [pelorusref06_Mul, ea, eb, Option.bind_some]
    rw [beq_f za, cond_false, beq_t zb, cond_true]
    unfold mulv
    rw [if_pos (.inr zb)]
  have nz : ¬ (x.1 = 0 ∨ y.1 = 0) := by omega
  have ne : (!(x.2.1 == y.2.1)) = (x.2.1 != y.2.1) := rfl
  by_cases ya : x.1 = 2
  · refine ⟨0, fun k _ => ?_⟩
    simp only [pelorusref06_Mul, ea, eb, Option.bind_some, rInf_eq, ne]
    rw [beq_f za, cond_false, beq_f zb, cond_false, beq_t ya, cond_true]
    unfold mulv
    rw [if_neg nz, if_pos (.inl ya)]
  by_cases yb : y.1 = 2
  · refine ⟨0, fun k _ => ?_⟩
    simp only [pelorusref06_Mul, ea, eb, Option.bind_some, rInf_eq, ne]
    rw [beq_f za, cond_false, beq_f zb, cond_false, beq_f ya, cond_false, beq_t yb, cond_true]
    unfold mulv
    rw [if_neg nz, if_pos (.inr yb)]
  have xa : x.1 = 1 := by rcases ma with ⟨h, _⟩ | ⟨h, _⟩ | ⟨h, _⟩ <;> omega
  have xb : y.1 = 1 := by rcases mb with ⟨h, _⟩ | ⟨h, _⟩ | ⟨h, _⟩ <;> omega
  obtain ⟨i0, i1, i2, i3⟩ := may_fin ma xa
  obtain ⟨j0, j1, j2, j3⟩ := may_fin mb xb
  obtain ⟨p, hp, K1, h1⟩ := exact_ev x.2.1 i0 i1 i2 i3
  obtain ⟨q, hq, K2, h2⟩ := exact_ev y.2.1 j0 j1 j2 j3
  have ex : (1, x.2.1, x.2.2.1, x.2.2.2) = x := by rw [← xa]
  have ey : (1, y.2.1, y.2.2.1, y.2.2.2) = y := by rw [← xb]
  rw [ex] at h1
  rw [ey] at h2
  have bl1 := bl_le (n := x.2.2.1) (m := 64) (by rw [p64]; exact i1)
  have bl2 := bl_le (n := y.2.2.1) (m := 64) (by rw [p64]; exact j1)
  obtain ⟨d, hd, K3, h3⟩ := mul3_ev hp hq (by rw [sg_abs _ (by omega)]; omega) (by rw [sg_abs _ (by omega)]; omega) (by omega) (by omega) (by omega) (by omega)
  have es : sg x.2.1 x.2.2.1 * sg y.2.1 y.2.2.1 = sg (x.2.1 != y.2.1) (x.2.2.1 * y.2.2.1) := by
    unfold sg
    cases x.2.1 <;> cases y.2.1 <;> simp [Int.neg_mul, Int.mul_neg]
  have m0 : 0 < x.2.2.1 * y.2.2.1 := Int.mul_pos (by omega) (by omega)
  have m1 : x.2.2.1 * y.2.2.1 ≤ 18446744073709551615 * 18446744073709551615 := Int.mul_le_mul (by omega) (by omega) (by omega) (by decide)
  have b128 := bl_le (n := x.2.2.1 * y.2.2.1) (m := 128) (by
    have : (2 : Int) ^ 128 = 18446744073709551616 * 18446744073709551616 := by decide
    omega)
  rw [es] at hd
  obtain ⟨K4, h4⟩ := round_ev hd up (by rw [sg_abs _ (by omega)]; omega) (by omega) (by rw [sg_abs _ (by omega)]; omega)
  rw [rnz_sg m0, ← mulv_fin xa xb] at h4
  refine ⟨K1 + K2 + K3 + K4, fun k hk => ?_⟩
  simp only [pelorusref06_Mul, ea, eb, Option.bind_some]
  rw [beq_f za, cond_false, beq_f zb, cond_false, beq_f ya, cond_false, beq_f yb, cond_false, h1 k (by omega), Option.bind_some, h2 k (by omega), Option.bind_some, h3 k (by omega), Option.bind_some, h4 k (by omega)]
  rfl
end Go.Proofs.YtmlnohiaagmgnaaGreat.Rf.Pl
