/- Plain laws: what the functions answer, without the program's memory (part 4). No condition. -/
import Derived.Test.YtmlnohiaagmgnaaP3
import Derived.KernelRfl
import Derived.DataShut
import Derived.Laws.BitsLemmas
import Derived.Lib.EndianBits
namespace Go.Proofs.Ytmlnohiaagmgnaa.Rf.Pl
open Go Go.Proofs
set_option linter.unusedVariables false
set_option linter.unusedSimpArgs false
/-! ### meets as greatest lower bounds -/
theorem within_antisymm {a b : Iv} (ha : mayI a = true) (hb : mayI b = true) (h1 : within a b = true) (h2 : within b a = true) : a = b := by
  rw [within_iff, fairI_may ha, fairI_may hb] at *
  cases ea : a.1
  · rcases h1 with h1 | ⟨h1, h3, h4⟩
    · rw [ea] at h1; cases h1
    · rcases h2 with h2 | ⟨_, h5, h6⟩
      · rw [h1] at h2; cases h2
      · obtain ⟨e1, m1, m2, _⟩ := mayI_full ha ea
        obtain ⟨e2, m3, m4, _⟩ := mayI_full hb h1
        have x1 := cmp_anti h3 h5
        have x2 := cmp_anti h4 h6
        rw [fair_may m3, fair_may m1] at x1
        rw [fair_may m2, fair_may m4] at x2
        rw [e1, e2, x1, x2]
  · rw [mayI_none ha ea]
    rw [ea] at h2
    rcases h2 with h2 | ⟨h2, _⟩
    · rw [mayI_none hb h2]
    · cases h2
theorem within_none_iff {z : Iv} {e : Iv} (he : (fairI e).1 = true) (h : within z e = true) : (fairI z).1 = true := by
  rw [within_iff] at h
  rcases h with h | ⟨h, _⟩
  · exact h
  · rw [he] at h; cases h
theorem within_of_none {z : Iv} (h : (fairI z).1 = true) (e : Iv) : within z e = true := by rw [within_iff]; exact .inl h
theorem meet_full {l : List Iv} (h : ∀ x ∈ l, (fairI x).1 = false) : meet l = mkI (most (losOf l)) (least (hisOf l)) := by
  unfold meet
  rw [if_pos]
  simp only [List.all_eq_true]
  intro x hx; simp [h x hx]
theorem mayI_meet (l : List Iv) : mayI (meet l) = true := by
  unfold meet; split
  · exact mayI_mkI _ _
  · exact mayI_noneI
theorem meet_le {l : List Iv} {x : Iv} (hx : x ∈ l) : within (meet l) x = true := by
  by_cases h : ∀ x ∈ l, (fairI x).1 = false
  · rw [within_iff, fairI_may (mayI_meet l), meet_full h]
    rcases mkI_cases (most (losOf l)) (least (hisOf l)) with e | ⟨e, _⟩ <;> rw [e]
    · exact .inl rfl
    · right
      simp only [cmp_fair_l, cmp_fair_r]
      exact ⟨h x hx, most_ge (mem_losOf.2 ⟨x, hx, h x hx, rfl⟩), least_le (mem_hisOf.2 ⟨x, hx, h x hx, rfl⟩)⟩
  · have : meet l = noneI := by
      unfold meet
      rw [if_neg]
      intro h2
      refine h fun y hy => ?_
      simp only [List.all_eq_true] at h2
      simpa using h2 y hy
    rw [this]; exact within_none _
theorem meet_glb {l : List Iv} {z : Iv} (hl : l ≠ []) (h : ∀ x ∈ l, within z x = true) : within z (meet l) = true := by
  cases hz : (fairI z).1
  · have hf : ∀ x ∈ l, (fairI x).1 = false := fun x hx => by
      cases hx1 : (fairI x).1
      · rfl
      · have := within_none_iff hx1 (h x hx); rw [hz] at this; cases this
    have g : ∀ x ∈ l, cmp (fairI x).2.1 (fairI z).2.1 ≤ 0 ∧ cmp (fairI z).2.2 (fairI x).2.2 ≤ 0 := fun x hx => by
      have := h x hx
      rw [within_iff, hz] at this
      rcases this with h | h
      · cases h
      · exact h.2
    obtain ⟨f1, f2, f3, f4, f5, f6⟩ := fair_low hz
    have a1 : cmp (most (losOf l)) (fairI z).2.1 ≤ 0 := most_le fun n hn => by
      obtain ⟨x, hx, _, rfl⟩ := mem_losOf.1 hn; exact (g x hx).1
    have a2 : cmp (fairI z).2.2 (least (hisOf l)) ≤ 0 := le_least fun n hn => by
      obtain ⟨x, hx, _, rfl⟩ := mem_hisOf.1 hn; exact (g x hx).2
    have e : meet l = (false, fair (most (losOf l)), fair (least (hisOf l))) := by
      rw [meet_full hf]
      refine mkI_may (cmp_le_trans a1 (cmp_le_trans f3 a2)) ?_ ?_
      · rw [fair_may (most_may _)]; exact ne_inf_of_le (most_may _) f1 a1 f4
      · rw [fair_may (least_may _)]; exact ne_inf_of_ge f2 (least_may _) a2 f5
    rw [within_iff, fairI_may (mayI_meet l), e]
    right
    simp only [cmp_fair_l, cmp_fair_r]
    exact ⟨trivial, a1, a2⟩
  · exact within_of_none hz _
theorem two_glb {a b z : Iv} (h1 : within z a = true) (h2 : within z b = true) : within z (two a b) = true := by
  rw [← meet_two]
  refine meet_glb (by simp) fun x hx => ?_
  simp only [List.mem_cons, List.not_mem_nil, or_false] at hx
  rcases hx with rfl | rfl
  · exact h1
  · exact h2
/-! the rate nought -/
abbrev zI : Iv := (false, zN, zN)
theorem mkI_zz : mkI zN zN = zI := by rw [mkI_point]; rfl
theorem mayI_zI : mayI zI = true := by decide
theorem bad_zI : bad zI = false := by decide
theorem addv_z {a : Nm} (up : Bool) : addv a zN up = a := by unfold addv; simp
theorem mulv_z (b : Nm) (up : Bool) : mulv zN b up = zN := by unfold mulv; simp
theorem fair_zN : fair zN = zN := rfl
theorem addI_z {x : Iv} (h : mayI x = true) : addI x zI = x := by
  unfold addI
  rw [bad_zI, Bool.or_false]
  cases hx : x.1
  · obtain ⟨e, m1, m2, m3, m4, m5⟩ := mayI_full h hx
    have hb : bad x = false := by unfold bad; rw [hx, h]; rfl
    rw [hb]
    simp only [Bool.false_eq_true, if_false, fair_zN, addv_z]
    rw [mkI_may (by simpa only [cmp_fair_l, cmp_fair_r] using m3) (by rw [fair_fair, fair_may m1]; exact m4) (by rw [fair_fair, fair_may m2]; exact m5), fair_fair, fair_fair, fair_may m1, fair_may m2]
    exact e.symm
  · have hb : bad x = true := by unfold bad; rw [hx]; rfl
    rw [hb, if_pos rfl, mayI_none h hx]
theorem negI_z : negI zI = zI := by decide
theorem subI_z {x : Iv} (h : mayI x = true) : subI x zI = x := by unfold subI; rw [negI_z, addI_z h]
theorem mulI_z {y : Iv} (h : bad y = false) : mulI zI y = zI := by
  unfold mulI
  rw [bad_zI, h]
  simp only [Bool.or_self, Bool.false_eq_true, if_false, fair_zN, mulv_z]
  have e1 : least [zN, zN, zN, zN] = zN := by decide
  have e2 : most [zN, zN, zN, zN] = zN := by decide
  rw [e1, e2, mkI_zz]
/-! the time of a step is above nought -/
theorem mag_lt {m1 m2 e1 e2 f : Int} (a1 : 9223372036854775808 ≤ m1) (a2 : m2 < 18446744073709551616) (b2 : 9223372036854775808 ≤ m2) (f1 : f ≤ e1) (f2 : f ≤ e2) (h : e2 < e1 ∨ e2 = e1 ∧ m2 < m1) : m2 * 2 ^ (e2 - f).toNat < m1 * 2 ^ (e1 - f).toNat := by
  rcases h with h | ⟨rfl, h⟩
  · obtain ⟨d, hd⟩ : ∃ d : Nat, (e1 - f).toNat = (d + 1) + (e2 - f).toNat := ⟨((e1 - f).toNat - (e2 - f).toNat) - 1, by omega⟩
    rw [hd, p2_add, ← Int.mul_assoc]
    refine mul_lt_p _ ?_
    have := p2_mono (i := 1) (j := d + 1) (by omega)
    rw [Int.pow_one] at this
    have := Int.mul_le_mul_of_nonneg_left this (show 0 ≤ m1 by omega)
    omega
  · exact mul_lt_p _ h
theorem grw_pos {q E : Int} (q0 : 9223372036854775808 ≤ q) (q1 : q < 18446744073709551616) (c : Bool) :
    cmp (grw false q E c false) (grw false q E c true) ≤ 0 ∧ grw false q E c false ≠ inf false ∧ grw false q E c true ≠ inf true ∧ cmp zN (grw false q E c true) ≤ 0 := by
  have m1 := fairP (grw_may (neg := false) (m := q) (e := E) (cut := c) (away := false) q0 q1)
  have m2 := fairP (grw_may (neg := false) (m := q) (e := E) (cut := c) (away := true) q0 q1)
  rw [cmp_le, cmp_le, m1, m2, fair_zN]
  unfold grw bnd tri tlt
  cases c
  · simp only [Bool.false_eq_true, false_and, and_false, if_false]
    by_cases h1 : E > 1048576
    · simp [h1]
    · by_cases h2 : E < -1048576
      · simp [h1, h2]
      · simp [h1, h2]
  · simp only [Bool.false_eq_true, true_and, and_false, if_false, and_true, if_true]
    by_cases h1 : E > 1048576
    · have h3 : E + 1 > 1048576 := by omega
      by_cases h4 : q + 1 = 18446744073709551616
      · simp [h1, h3, h4]
      · simp [h1, h4]
    · by_cases h2 : E < -1048576
      · have h3 : ¬ E + 1 > 1048576 := by omega
        by_cases h4 : q + 1 = 18446744073709551616
        · by_cases h5 : E + 1 < -1048576
          · simp [h1, h2, h3, h4, h5]
          · simp [h1, h2, h3, h4, h5]
        · simp [h1, h2, h4]
      · by_cases h4 : q + 1 = 18446744073709551616
        · by_cases h3 : E + 1 > 1048576
          · simp [h1, h2, h3, h4]
          · have h5 : ¬ E + 1 < -1048576 := by omega
            simp [h1, h2, h3, h4, h5]; omega
        · simp [h1, h2, h4]; omega
theorem sub_pos {a b : Nm} (ha : mayP a) (hb : mayP b) (ha2 : a.1 ≠ 2) (hb2 : b.1 ≠ 2) (h : cmp b a > 0) :
    cmp (addv b (ngv a) false) (addv b (ngv a) true) ≤ 0 ∧ addv b (ngv a) false ≠ inf false ∧ addv b (ngv a) true ≠ inf true ∧ cmp zN (addv b (ngv a) true) ≤ 0 := by
  rw [cmp_pos, cmp_lt, fairP ha, fairP hb] at h
  have one : ∀ n : Nm, mayP n → n.1 = 1 → n.2.1 = false → cmp n n ≤ 0 ∧ n ≠ inf false ∧ n ≠ inf true ∧ cmp zN n ≤ 0 := fun n hn h1 h2 => by
    refine ⟨by rw [cmp_self]; decide, fun e => absurd (e ▸ h1 : (inf false).1 = 1) (by decide), fun e => absurd (e ▸ h1 : (inf true).1 = 1) (by decide), ?_⟩
    rw [cmp_le, fairP hn, fair_zN]
    unfold tri tlt
    rw [h2]
    simp [h1]
  have val : ∀ s e : Int, 0 < s → cmp (rnz s e false) (rnz s e true) ≤ 0 ∧ rnz s e false ≠ inf false ∧ rnz s e true ≠ inf true ∧ cmp zN (rnz s e true) ≤ 0 := fun s e hs => by
    have e1 : ∀ up, rnz s e up = rnd false s e up := fun up => by
      unfold rnz
      rw [if_neg (by omega), decide_eq_false (by omega), Int.natAbs_of_nonneg (by omega)]
      cases up <;> rfl
    obtain ⟨q, E, c, hf⟩ := fit_ex e hs
    rw [e1, e1, rnd_fit hf, rnd_fit hf]
    exact grw_pos hf.1 hf.2.1 c
  obtain ⟨a1, an, am, ae⟩ := a
  obtain ⟨b1, bn, bm, be⟩ := b
  rcases ha with ⟨h1, h2, h3, h4⟩ | ⟨h1, h2, h3, h4, h5⟩ | ⟨h1, _⟩
  · simp only at h1 h2 h3 h4
    subst h1 h2 h3 h4
    rcases hb with ⟨g1, g2, g3, g4⟩ | ⟨g1, g2, g3, g4, g5⟩ | ⟨g1, _⟩
    · simp only at g1 g2 g3 g4
      subst g1 g2 g3 g4
      simp [tri, tlt] at h
    · simp only at g1; subst g1
      have hbn : bn = false := by cases bn <;> simp [tri, tlt] at h ⊢
      subst hbn
      have e : ∀ up, addv (1, false, bm, be) (ngv (0, false, 0, 0)) up = (1, false, bm, be) := fun up => by unfold addv ngv; simp
      rw [e, e]
      exact one _ (.inr (.inl ⟨rfl, g2, g3, g4, g5⟩)) rfl rfl
    · exact absurd g1 hb2
  · simp only at h1; subst h1
    rcases hb with ⟨g1, g2, g3, g4⟩ | ⟨g1, g2, g3, g4, g5⟩ | ⟨g1, _⟩
    · simp only at g1 g2 g3 g4
      subst g1 g2 g3 g4
      have han : an = true := by cases an <;> simp [tri, tlt] at h ⊢
      subst han
      have e : ∀ up, addv (0, false, 0, 0) (ngv (1, true, am, ae)) up = (1, false, am, ae) := fun up => by unfold addv ngv; simp
      rw [e, e]
      exact one _ (.inr (.inl ⟨rfl, h2, h3, h4, h5⟩)) rfl rfl
    · simp only at g1 g2 g3 g4 g5 h2 h3 h4 h5; subst g1
      have e : ngv (1, an, am, ae) = (1, !an, am, ae) := by unfold ngv; simp
      rw [e, addv_fin rfl rfl, addv_fin rfl rfl]
      refine val _ _ ?_
      simp only [exs]
      have p1 := Int.mul_pos (show 0 < bm by omega) (p2_pos (be - min be ae).toNat)
      have p2 := Int.mul_pos (show 0 < am by omega) (p2_pos (ae - min be ae).toNat)
      cases an <;> cases bn <;> simp [tri, tlt] at h <;> simp only [sg, Bool.not_false, Bool.not_true, if_true, Bool.false_eq_true, if_false, Int.neg_mul]
      · have := mag_lt (f := min be ae) g2 h3 h2 (by omega) (by omega) (by omega : ae < be ∨ ae = be ∧ am < bm)
        omega
      · omega
      · have := mag_lt (f := min be ae) h2 g3 g2 (by omega) (by omega) (by omega : be < ae ∨ be = ae ∧ bm < am)
        omega
    · exact absurd g1 hb2
  · exact absurd h1 ha2
/-! ### with every rate nought, each gate is the meet of all -/
theorem okS_lt {l : List Sl} : ∀ {w : Nm} {i : Nat}, okS w l = true → i < l.length → cmp (slG l i).1 (match i with | 0 => w | i + 1 => (slG l i).1) > 0 ∧ finite (slG l i).1 = true := by
  induction l with
  | nil => intro w i h hi; simp at hi
  | cons x l ih =>
    intro w i h hi
    simp only [okS, Bool.and_eq_true, decide_eq_true_eq] at h
    cases i with
    | zero => exact ⟨h.1.1.1.2, h.1.1.1.1⟩
    | succ i =>
      have := ih (i := i) h.2 (by simpa using hi)
      cases i with
      | zero => exact this
      | succ i => exact this
theorem time_fin {t : Tb} (h : mayT t = true) {i : Nat} (hi : i ≤ t.2.2.length) : finite (timeN t i) = true := by
  rw [mayT_iff] at h
  cases i with
  | zero => exact h.1
  | succ i => exact (okS_lt h.2.2.2 hi).2
theorem time_lt {t : Tb} (h : mayT t = true) {i : Nat} (hi : i < t.2.2.length) : cmp (timeN t (i + 1)) (timeN t i) > 0 := by
  rw [mayT_iff] at h
  have := (okS_lt h.2.2.2 hi).1
  cases i with
  | zero => exact this
  | succ i => exact this
theorem finite_iff {n : Nm} : finite n = true ↔ may n = true ∧ n.1 ≠ 2 := by
  simp [finite]
theorem dt_bad {t : Tb} (h : mayT t = true) (hw : wfT t) {i : Nat} (hi : i < t.2.2.length) : bad (dtI t i) = false ∧ bad (mkI zN (dtI t i).2.2) = false := by
  obtain ⟨f1, f2⟩ := finite_iff.1 (time_fin h (show i + 1 ≤ t.2.2.length by omega))
  obtain ⟨f3, f4⟩ := finite_iff.1 (time_fin h (show i ≤ t.2.2.length by omega))
  have p1 := mayP_of f1 (wfN_time hw (show i + 1 ≤ t.2.2.length by omega))
  have p2 := mayP_of f3 (wfN_time hw (show i ≤ t.2.2.length by omega))
  obtain ⟨a1, a2, a3, a4⟩ := sub_pos p2 p1 f4 f2 (time_lt h hi)
  have e : dtI t i = (false, addv (timeN t (i + 1)) (ngv (timeN t i)) false, addv (timeN t (i + 1)) (ngv (timeN t i)) true) := by
    have q : ∀ up, fair (addv (timeN t (i + 1)) (ngv (timeN t i)) up) = addv (timeN t (i + 1)) (ngv (timeN t i)) up := fun up => fairP (addv_may up p1 (ngv_may p2))
    unfold dtI
    rw [fairP p1, neg_eq p2, mkI_may a1 (by rw [q]; exact a2) (by rw [q]; exact a3), q, q]
  have m : ∀ x y : Nm, (mkI x y).1 = false → bad (mkI x y) = false := fun x y hh => by unfold bad; rw [hh, mayI_mkI]; rfl
  refine ⟨?_, ?_⟩
  · have := congrArg Prod.fst e
    exact m _ _ this
  · refine m _ _ ?_
    rw [e]
    simp only
    have q := fairP (addv_may true p1 (ngv_may p2))
    rw [mkI_may a4 (by rw [fair_zN]; decide) (by rw [q]; exact a3)]
/-- All rates are nought. -/
def Zr (r : List Iv) : Prop := ∀ i, i < r.length → rtG r i = zI
theorem run_z {r : List Iv} (hz : Zr r) {t : Tb} (h : mayT t = true) (hw : wfT t) {i : Nat} (hi : i < t.2.2.length) (hl : r.length = t.2.2.length) : runA r t i = zI ∧ runB r t i = zI := by
  obtain ⟨b1, b2⟩ := dt_bad h hw hi
  unfold runA runB
  rw [hz i (by omega), mulI_z b1, mulI_z b2]
  exact ⟨rfl, rfl⟩
theorem mayI_gt {t : Tb} (h : mayT t = true) {i : Nat} (hi : i ≤ t.2.2.length) : mayI (gtN t i) = true := by
  cases i with
  | zero => exact (mayT_iff.1 h).2.1
  | succ i => exact (mayT_sl h hi).2
theorem fwd_z {r : List Iv} (hz : Zr r) {t : Tb} (h : mayT t = true) (hw : wfT t) {i : Nat} (hi : i < t.2.2.length) (hl : r.length = t.2.2.length) :
    fwd r t i = (t.1, t.2.1, t.2.2.set i ((slG t.2.2 i).1, two (slG t.2.2 i).2.1 (gtN t i), two (slG t.2.2 i).2.2 (gtN t i))) := by
  obtain ⟨e1, e2⟩ := run_z hz h hw hi hl
  unfold fwd
  rw [e1, e2, addI_z (mayI_gt h (by omega))]
theorem bwd_z {r : List Iv} (hz : Zr r) {t : Tb} (h : mayT t = true) (hw : wfT t) {i : Nat} (hi : i < t.2.2.length) (hl : r.length = t.2.2.length) :
    bwd r t i = ((setG t (two (gtN t i) (gtN t (i + 1))) i).1, (setG t (two (gtN t i) (gtN t (i + 1))) i).2.1, (setG t (two (gtN t i) (gtN t (i + 1))) i).2.2.set i ((slG t.2.2 i).1, two (slG t.2.2 i).2.1 (gtN t (i + 1)), (slG t.2.2 i).2.2)) := by
  obtain ⟨e1, e2⟩ := run_z hz h hw hi hl
  unfold bwd
  rw [e1, e2, subI_z (mayI_gt h (show i + 1 ≤ t.2.2.length by omega))]
/-! the gates along the passes -/
theorem gt_fwd {r : List Iv} (hz : Zr r) {t : Tb} (h : mayT t = true) (hw : wfT t) {i : Nat} (hi : i < t.2.2.length) (hl : r.length = t.2.2.length) (b : Nat) :
    gtN (fwd r t i) b = if b = i + 1 then two (gtN t (i + 1)) (gtN t i) else gtN t b := by
  rw [fwd_z hz h hw hi hl]
  cases b with
  | zero => rw [if_neg (by omega)]; rfl
  | succ b =>
    simp only [gtN]
    by_cases e : b = i
    · subst e
      rw [if_pos rfl, slG_set_self hi]
    · rw [if_neg (by omega), slG_set_ne (by omega)]
theorem gt_bwd {r : List Iv} (hz : Zr r) {t : Tb} (h : mayT t = true) (hw : wfT t) {i : Nat} (hi : i < t.2.2.length) (hl : r.length = t.2.2.length) (b : Nat) :
    gtN (bwd r t i) b = if b = i then two (gtN t i) (gtN t (i + 1)) else gtN t b := by
  rw [bwd_z hz h hw hi hl]
  cases b with
  | zero =>
    cases i with
    | zero => rw [if_pos rfl]; rfl
    | succ i => rw [if_neg (by omega)]; rfl
  | succ b =>
    cases i with
    | zero =>
      rw [if_neg (by omega)]
      simp only [setG, gtN]
      by_cases e : b = 0
      · subst e; rw [slG_set_self hi]
      · rw [slG_set_ne (by omega)]
    | succ i =>
      simp only [setG, gtN]
      by_cases e1 : b = i + 1
      · subst e1
        rw [if_neg (by omega), slG_set_self (by simpa using hi)]
      · rw [slG_set_ne (by omega)]
        by_cases e2 : b = i
        · subst e2; rw [if_pos rfl, slG_set_self (by omega)]
        · rw [if_neg (by omega), slG_set_ne (by omega)]
theorem fwds_gates {r : List Iv} (hz : Zr r) (hr : ∀ x ∈ r, wfI x) (F : Tb) : ∀ (j i : Nat) (t : Tb), i + j = t.2.2.length → r.length = t.2.2.length → mayT t = true → wfT t →
    (∀ b, b ≤ t.2.2.length → within (gtN t b) (gtN F b) = true) → (∀ a b, a ≤ b → b ≤ i → within (gtN t b) (gtN F a) = true) →
    ∀ a b, a ≤ b → b ≤ t.2.2.length → within (gtN (fwds r j i t) b) (gtN F a) = true
  | 0, i, t, hi, hl, hm, hw, h1, h2, a, b, hab, hb => h2 a b hab (by omega)
  | j + 1, i, t, hi, hl, hm, hw, h1, h2, a, b, hab, hb => by
    have hit : i < t.2.2.length := by omega
    have g := gt_fwd hz hm hw hit hl
    have ln := fwd_len r t i
    refine fwds_gates hz hr F j (i + 1) (fwd r t i) (by omega) (by omega) (mayT_fwd hm) (wfT_fwd hr (by omega) hw hit) ?_ ?_ a b hab (by omega)
    · intro b hb
      rw [g b]
      split
      · rename_i e; subst e
        exact within_trans (two_le_left _ _) (h1 _ (by omega))
      · exact h1 b (by omega)
    · intro a b hab hb
      rw [g b]
      split
      · rename_i e; subst e
        by_cases ha : a = i + 1
        · subst ha; exact within_trans (two_le_left _ _) (h1 _ (by omega))
        · exact within_trans (two_le_right _ _) (h2 a i (by omega) (by omega))
      · exact h2 a b hab (by omega)
theorem bwds_gates {r : List Iv} (hz : Zr r) (hr : ∀ x ∈ r, wfI x) (F : Tb) : ∀ (j : Nat) (t : Tb), j ≤ t.2.2.length → r.length = t.2.2.length → mayT t = true → wfT t →
    (∀ a b, a ≤ t.2.2.length → j ≤ b → b ≤ t.2.2.length → within (gtN t b) (gtN F a) = true) →
    ∀ a b, a ≤ t.2.2.length → b ≤ t.2.2.length → within (gtN (bwds r j t) b) (gtN F a) = true
  | 0, t, hj, hl, hm, hw, h1, a, b, ha, hb => h1 a b ha (by omega) hb
  | j + 1, t, hj, hl, hm, hw, h1, a, b, ha, hb => by
    have hit : j < t.2.2.length := by omega
    have g := gt_bwd hz hm hw hit hl
    have ln := bwd_len r t j
    refine bwds_gates hz hr F j (bwd r t j) (by omega) (by omega) (mayT_bwd hm hit) (wfT_bwd hr (by omega) hw hit) ?_ a b (by omega) (by omega)
    intro a b ha hjb hb
    rw [g b]
    split
    · rename_i e; subst e
      exact within_trans (two_le_right _ _) (h1 a (b + 1) (by omega) (by omega) (by omega))
    · exact h1 a b (by omega) (by omega) (by omega)
/-! what is within everything stays so -/
def Under (M : Iv) (t : Tb) : Prop := within M t.2.1 = true ∧ ∀ s ∈ t.2.2, within M s.2.1 = true ∧ within M s.2.2 = true
theorem Under.gt {M : Iv} {t : Tb} (h : Under M t) {i : Nat} (hi : i ≤ t.2.2.length) : within M (gtN t i) = true := by
  cases i with
  | zero => exact h.1
  | succ i => exact (h.2 _ (slG_mem hi)).2
theorem Under.set {M : Iv} {t : Tb} (h : Under M t) {i : Nat} {s : Sl} (h1 : within M s.2.1 = true) (h2 : within M s.2.2 = true) : Under M (t.1, t.2.1, t.2.2.set i s) := by
  refine ⟨h.1, fun x hx => ?_⟩
  rcases List.mem_or_eq_of_mem_set hx with hx | rfl
  · exact h.2 x hx
  · exact ⟨h1, h2⟩
theorem Under.setG {M : Iv} {t : Tb} (h : Under M t) {i : Nat} {x : Iv} (hi : i ≤ t.2.2.length) (hx : within M x = true) : Under M (setG t x i) := by
  cases i with
  | zero => exact ⟨hx, h.2⟩
  | succ i => exact h.set (h.2 _ (slG_mem hi)).1 hx
theorem Under.fwd {M : Iv} {r : List Iv} (hz : Zr r) {t : Tb} (h : Under M t) (hm : mayT t = true) (hw : wfT t) {i : Nat} (hi : i < t.2.2.length) (hl : r.length = t.2.2.length) : Under M (fwd r t i) := by
  rw [fwd_z hz hm hw hi hl]
  have a := h.2 _ (slG_mem hi)
  have b := h.gt (show i ≤ t.2.2.length by omega)
  exact h.set (two_glb a.1 b) (two_glb a.2 b)
theorem Under.bwd {M : Iv} {r : List Iv} (hz : Zr r) {t : Tb} (h : Under M t) (hm : mayT t = true) (hw : wfT t) {i : Nat} (hi : i < t.2.2.length) (hl : r.length = t.2.2.length) : Under M (bwd r t i) := by
  rw [bwd_z hz hm hw hi hl]
  have a := h.2 _ (slG_mem hi)
  have b := h.gt (show i ≤ t.2.2.length by omega)
  have c := h.gt (show i + 1 ≤ t.2.2.length by omega)
  exact (h.setG (i := i) (by omega) (two_glb b c)).set (two_glb a.1 c) a.2
theorem Under.fwds {M : Iv} {r : List Iv} (hz : Zr r) (hr : ∀ x ∈ r, wfI x) : ∀ (j i : Nat) (t : Tb), i + j = t.2.2.length → r.length = t.2.2.length → mayT t = true → wfT t → Under M t → Under M (fwds r j i t)
  | 0, i, t, hi, hl, hm, hw, h => h
  | j + 1, i, t, hi, hl, hm, hw, h => by
    have ln := fwd_len r t i
    exact Under.fwds hz hr j (i + 1) _ (by omega) (by omega) (mayT_fwd hm) (wfT_fwd hr (by omega) hw (by omega)) (h.fwd hz hm hw (by omega) hl)
theorem Under.bwds {M : Iv} {r : List Iv} (hz : Zr r) (hr : ∀ x ∈ r, wfI x) : ∀ (j : Nat) (t : Tb), j ≤ t.2.2.length → r.length = t.2.2.length → mayT t = true → wfT t → Under M t → Under M (bwds r j t)
  | 0, t, hj, hl, hm, hw, h => h
  | j + 1, t, hj, hl, hm, hw, h => by
    have ln := bwd_len r t j
    exact Under.bwds hz hr j _ (by omega) (by omega) (mayT_bwd hm (by omega)) (wfT_bwd hr (by omega) hw (by omega)) (h.bwd hz hm hw (by omega) hl)
theorem Under.fitN {M : Iv} : ∀ (l : List Sl) (n : Option Sl), (∀ s ∈ l, within M s.2.1 = true ∧ within M s.2.2 = true) → (∀ x, n = some x → within M x.2.1 = true) → ∀ s ∈ fitN l n, within M s.2.1 = true ∧ within M s.2.2 = true
  | [], n, h, hn, s, hs => by simp [Pl.fitN] at hs
  | y :: l, n, h, hn, s, hs => by
    rw [fitN_cons] at hs
    rcases List.mem_cons.1 hs with rfl | hs
    · have hy := h y (by simp)
      refine ⟨hy.1, ?_⟩
      have hx : ∀ x, (l.head?.or n) = some x → within M x.2.1 = true := fun x hx => by
        cases l with
        | nil => exact hn x (by simpa using hx)
        | cons z l =>
          have : z = x := by simpa using hx
          exact this ▸ (h z (by simp)).1
      show within M (g2 y (l.head?.or n)) = true
      cases hq : l.head?.or n with
      | none => exact two_glb hy.2 hy.1
      | some x => exact two_glb (two_glb hy.2 hy.1) (hx x hq)
    · exact Under.fitN l n (fun s hs => h s (by simp [hs])) hn s hs
theorem Under.fitU {M : Iv} {t : Tb} (h : Under M t) : Under M (fitU t) := by
  refine ⟨?_, Under.fitN _ _ h.2 (fun x hx => by cases hx)⟩
  show within M (nx t.2.1 t.2.2) = true
  cases hl : t.2.2 with
  | nil => exact h.1
  | cons s l => exact two_glb h.1 (h.2 s (by rw [hl]; simp)).1
theorem mayI_fst {x : Iv} (h : x.1 = true) : (fairI x).1 = true := by
  unfold fairI; split
  · exact h
  · rfl
theorem Under.empty {M : Iv} {t : Tb} (h : Under M t) (he : emptyT t = true) : (fairI M).1 = true := by
  simp only [emptyT, Bool.or_eq_true, List.any_eq_true] at he
  rcases he with he | ⟨s, hs, he | he⟩
  · exact within_none_iff (mayI_fst he) h.1
  · exact within_none_iff (mayI_fst he) (h.2 s hs).1
  · exact within_none_iff (mayI_fst he) (h.2 s hs).2
theorem Under.none {M : Iv} (h : (fairI M).1 = true) (t : Tb) : Under M t := ⟨within_of_none h _, fun _ _ => ⟨within_of_none h _, within_of_none h _⟩⟩
theorem Under.fitT {M : Iv} {t : Tb} (h : Under M t) : Under M (fitT t) := by
  unfold Pl.fitT
  split
  · split
    · rename_i he; exact Under.none (h.fitU.empty he) _
    · exact h.fitU
  · exact h
/-! all the gates of a fitted tube, and the alongs -/
theorem fitT_gates {t : Tb} (h : mayT t = true) {z : Iv} (hz : ∀ a, a ≤ t.2.2.length → within z (gtN (fitT t) a) = true) : within z t.2.1 = true ∧ ∀ s ∈ t.2.2, within z s.2.1 = true ∧ within z s.2.2 = true := by
  have e : ∀ a, gtN (fitT t) a = if emptyT (fitU t) = true then (if a ≤ t.2.2.length then noneI else gtN (fitT t) a) else gtN (fitU t) a := fun a => by
    split
    · rename_i he
      split
      · rename_i ha
        unfold fitT
        rw [if_pos h, if_pos he]
        cases a with
        | zero => rfl
        | succ a =>
          simp only [gtN]
          have : slG (t.2.2.map voidS) a = voidS (slG t.2.2 a) := by
            unfold slG; rw [List.getElem?_map, List.getElem?_eq_getElem (show a < t.2.2.length from ha)]; rfl
          rw [this]; rfl
      · rfl
    · rename_i he
      unfold fitT
      rw [if_pos h, if_neg he]
  by_cases he : emptyT (fitU t) = true
  · have := hz 0 (by omega)
    rw [e, if_pos he, if_pos (by omega)] at this
    have hn := within_none_iff (e := noneI) (by rw [fairI_may mayI_noneI]) this
    exact ⟨within_of_none hn _, fun _ _ => ⟨within_of_none hn _, within_of_none hn _⟩⟩
  · have g : ∀ a, a ≤ t.2.2.length → within z (gtN (fitU t) a) = true := fun a ha => by
      have := hz a ha
      rwa [e, if_neg he] at this
    refine ⟨within_trans (g 0 (by omega)) (nx_le _ _), fun s hs => ?_⟩
    obtain ⟨i, hi, rfl⟩ := List.getElem_of_mem hs
    obtain ⟨o, ho⟩ := fitN_get t.2.2 none i hi
    have h1 := g (i + 1) (by omega)
    have : gtN (fitU t) (i + 1) = g2 t.2.2[i] o := by simp only [gtN, fitU, slG, ho]; rfl
    rw [this] at h1
    refine ⟨within_trans h1 ?_, within_trans h1 (g2_le _ _)⟩
    cases o with
    | none => exact two_le_right _ _
    | some x => exact within_trans (two_le_left _ _) (two_le_right _ _)
theorem gate_eq {t : Tb} (h : mayT t = true) {i : Nat} (hi : i ≤ t.2.2.length) : gateT t (i : Int) = gtN t i := by
  unfold gateT
  rw [if_pos ⟨h, by omega, by omega⟩]
  cases i with
  | zero => rfl
  | succ i =>
    rw [if_neg (by omega), show ((i + 1 : Nat) : Int) - 1 = (i : Int) by omega, Int.toNat_natCast, slG_eq hi]
    rfl
/-- The meet of all of a tube. -/
def mAll (M : Iv) (l : List Sl) : Iv := l.foldl (fun a s => meet [a, s.2.1, s.2.2]) M
theorem mAll_spec : ∀ (l : List Sl) (M : Iv), mayI M = true → mayI (mAll M l) = true ∧ within (mAll M l) M = true ∧ (∀ s ∈ l, within (mAll M l) s.2.1 = true ∧ within (mAll M l) s.2.2 = true) ∧
    ∀ z, within z M = true → (∀ s ∈ l, within z s.2.1 = true ∧ within z s.2.2 = true) → within z (mAll M l) = true
  | [], M, h => ⟨h, within_refl _, fun s hs => (by cases hs), fun z hz _ => hz⟩
  | x :: l, M, h => by
    obtain ⟨h1, h2, h3, h4⟩ := mAll_spec l (meet [M, x.2.1, x.2.2]) (mayI_meet _)
    refine ⟨h1, within_trans h2 (meet_le (by simp)), fun s hs => ?_, fun z hz hs => ?_⟩
    · rcases List.mem_cons.1 hs with rfl | hs
      · exact ⟨within_trans h2 (meet_le (by simp)), within_trans h2 (meet_le (by simp))⟩
      · exact h3 s hs
    · refine h4 z (meet_glb (by simp) fun y hy => ?_) fun s hs' => hs s (by simp [hs'])
      simp only [List.mem_cons, List.not_mem_nil, or_false] at hy
      rcases hy with rfl | rfl | rfl
      · exact hz
      · exact (hs x (by simp)).1
      · exact (hs x (by simp)).2
/-- What Contract gives, with every rate nought. -/
theorem still {t : Tb} {r : List Iv} (hm : mayT t = true) (hw : wfT t) (hr : ∀ x ∈ r, wfI x) (hz : Zr r) (hl : r.length = t.2.2.length) :
    (∀ i, i ≤ t.2.2.length → gateT (fitT (bwds r t.2.2.length (fwds r t.2.2.length 0 (fitT t)))) (i : Int) = mAll t.2.1 t.2.2) ∧
    emptyT (fitT (bwds r t.2.2.length (fwds r t.2.2.length 0 (fitT t)))) = (mAll t.2.1 t.2.2).1 := by
  obtain ⟨m1, m2, m3, m4⟩ := mAll_spec t.2.2 t.2.1 (mayT_iff.1 hm).2.1
  have hmF := mayT_fitT hm
  have hwF := wfT_fitT hw
  have lF := fitT_len t
  have hmv : mayT (fwds r t.2.2.length 0 (fitT t)) = true := mayT_fwds hmF
  have hwv : wfT (fwds r t.2.2.length 0 (fitT t)) := wfT_fwds hr (by omega) (by rw [lF]; exact hl) hwF
  have lv := fwds_len r t.2.2.length 0 (fitT t)
  have inv := contract_inv (r := r) hm
  have lu := bwds_len r t.2.2.length (fwds r t.2.2.length 0 (fitT t))
  have U : Under (mAll t.2.1 t.2.2) (bwds r t.2.2.length (fwds r t.2.2.length 0 (fitT t))) :=
    Under.bwds hz hr _ _ (by omega) (by omega) hmv hwv (Under.fwds hz hr _ _ _ (by omega) (by omega) hmF hwF (Under.fitT ⟨m2, m3⟩))
  have G : ∀ a b, a ≤ t.2.2.length → b ≤ t.2.2.length → within (gtN (bwds r t.2.2.length (fwds r t.2.2.length 0 (fitT t))) b) (gtN (fitT t) a) = true := by
    intro a b ha hb
    refine bwds_gates hz hr (fitT t) t.2.2.length _ (by omega) (by omega) hmv hwv ?_ a b (by omega) (by omega)
    intro a b ha h1 h2
    refine fwds_gates hz hr (fitT t) t.2.2.length 0 (fitT t) (by omega) (by omega) hmF hwF (fun b _ => within_refl _) ?_ a b (by omega) (by omega)
    intro a b ha hb
    have : a = b := by omega
    subst this; exact within_refl _
  have D : ∀ b, b ≤ t.2.2.length → within (gtN (bwds r t.2.2.length (fwds r t.2.2.length 0 (fitT t))) b) (mAll t.2.1 t.2.2) = true := by
    intro b hb
    obtain ⟨g1, g2⟩ := fitT_gates hm (z := gtN (bwds r t.2.2.length (fwds r t.2.2.length 0 (fitT t))) b) fun a ha => G a b ha hb
    exact m4 _ g1 g2
  generalize bwds r t.2.2.length (fwds r t.2.2.length 0 (fitT t)) = u at *
  have luT := fitT_len u
  have hmu := mayT_fitT inv.1
  have U2 := U.fitT
  have E : ∀ i, i ≤ t.2.2.length → gateT (fitT u) (i : Int) = mAll t.2.1 t.2.2 := by
    intro i hi
    have g := (gate_fitT inv.1 (i := (i : Int)) (by omega) (by omega)).1
    rw [gate_eq inv.1 (by omega)] at g
    rw [gate_eq hmu (by omega)] at g ⊢
    exact within_antisymm (mayI_gt hmu (by omega)) m1 (within_trans g (D i hi)) (U2.gt (by omega))
  refine ⟨E, ?_⟩
  cases hM : (mAll t.2.1 t.2.2).1
  · cases hE : emptyT (fitT u)
    · rfl
    · have := U2.empty hE
      rw [fairI_may m1, hM] at this
      cases this
  · have h0 := E 0 (by omega)
    rw [gate_eq hmu (by omega)] at h0
    have h0 : (fitT u).2.1 = mAll t.2.1 t.2.2 := h0
    simp [emptyT, h0, hM]
/-! ### the law FlowStill -/
theorem of_zero (k : Nat) : peloruslaw08_Of k 0 0 = some (zI, ()) := by
  have h : num_Of k 0 = some (zN, ()) := by
    simp only [num_Of]
    rw [cond_f (show ¬ (0 : Int) < 0 by decide), show IntKind.u64.wrap 0 = 0 from rfl, lz64 k (by decide) (by decide)]
    rfl
  simp only [peloruslaw08_Of, h, Option.bind_some, iv_Make_eq, mkI_zz]
theorem still_loop0 (k : Nat) (hk : 100 ≤ k) (st : Nm) (inn : Iv) : ∀ (s pre : List Sl) (acc : Iv) (m : Nat), s.length < m → pre.length + s.length ≤ 1000000 →
    peloruslaw18_FlowStill_l0 k m (((), (), (), (pre.length : Int), ()), ((st, inn, pre ++ s), acc, List.replicate pre.length zI, ())) = some (Sum.inl (((), (), (), ()), ((st, inn, pre ++ s), mAll acc s, List.replicate (pre ++ s).length zI, ())))
  | [], pre, acc, m + 1, hm, hl => by simp [peloruslaw18_FlowStill_l0, mAll]
  | x :: s, pre, acc, m + 1, hm, hl => by
    simp only [List.length_cons] at hm hl
    have ih := still_loop0 k hk st inn s (pre ++ [x]) (meet [acc, x.2.1, x.2.2]) m (by omega) (by simp; omega)
    rw [mid_eq, len_snoc] at ih
    have gl : ((List.replicate pre.length zI).length + [zI].length) * 72 ≤ 140737488355328 := by simp; omega
    simp only [peloruslaw18_FlowStill_l0, cond_t (len_lt pre x s), of_zero, Option.bind_some, if_pos gl, if_pos (Int.natCast_nonneg pre.length), at_mid, wrap_succ (show pre.length ≤ 1000000000 by omega), iv_Meet_eq k [acc, x.2.1, x.2.2] (by simp; omega) (by simp)]
    rw [show List.replicate pre.length zI ++ [zI] = List.replicate (pre.length + 1) zI from (List.replicate_succ' ..).symm, ih]
    rfl
theorem still_loop1 (k : Nat) (hk : 100 ≤ k) (t : Tb) (M : Iv) (R : Tb) (hR : ∀ i : Nat, i ≤ t.2.2.length → gateT R (i : Int) = M) (hl : t.2.2.length ≤ 1000) : ∀ (j i m : Nat), i + j = t.2.2.length + 1 → j < m →
    peloruslaw18_FlowStill_l1 k m (((), (), (), (i : Int), ()), (t, M, R, ())) = some (Sum.inr (Sum.inl (((), (), ()), (M, R, ()))))
  | 0, i, m + 1, hi, hm => by
    have : ¬ (i : Int) ≤ (t.2.2.length : Int) := by omega
    simp only [peloruslaw18_FlowStill_l1, cond_f this]
  | j + 1, i, m + 1, hi, hm => by
    have : (i : Int) ≤ (t.2.2.length : Int) := by omega
    have ih := still_loop1 k hk t M R hR hl j (i + 1) m (by omega) (by omega)
    simp only [peloruslaw18_FlowStill_l1, cond_t this, tube_Gate_eq k hk, Option.bind_some, hR i (by omega), beqI, decide_true, Bool.not_true, cond_false, wrap_succ (show i ≤ 1000000000 by omega)]
    exact ih
theorem rep_rt (n : Nat) : Zr (List.replicate n zI) := by
  intro i hi
  unfold rtG
  rw [List.getElem?_eq_getElem hi]
  simp
theorem FlowStill (t : Tb) (hw : wfT t) : ∃ k, peloruslaw18_FlowStill k t = some (true, ()) := by
  refine ⟨200, ?_⟩
  have g0 := tube_May_eq 200 (by decide) t
  simp only [peloruslaw18_FlowStill, awake18, Option.bind_some, g0]
  by_cases h : (t.2.2.length : Int) > 20
  · simp [h]
  · rw [cond_f h]
    cases hm : mayT t
    · simp
    · have l0 := still_loop0 200 (by decide) t.1 t.2.1 t.2.2 [] t.2.1 200 (by omega) (by simp; omega)
      simp only [List.nil_append, List.length_nil, List.replicate_zero] at l0
      rw [show ((0 : Nat) : Int) = 0 from rfl] at l0
      have hr : ∀ x ∈ List.replicate t.2.2.length zI, wfI x := fun x hx => by
        rw [List.eq_of_mem_replicate hx]; exact ⟨wfN_zN, wfN_zN⟩
      have hrl : (List.replicate t.2.2.length zI).length = t.2.2.length := by simp
      obtain ⟨s1, s2⟩ := still hm hw hr (rep_rt _) hrl
      have hall : (List.replicate t.2.2.length zI).all mayI = true := by
        rw [List.all_eq_true]; intro x hx; rw [List.eq_of_mem_replicate hx]; exact mayI_zI
      have hc : contractT t (List.replicate t.2.2.length zI) = (fitT (bwds (List.replicate t.2.2.length zI) t.2.2.length (fwds (List.replicate t.2.2.length zI) t.2.2.length 0 (fitT t))), 0) := by
        unfold contractT
        rw [hm, hall, hrl]
        simp
      have hmay : mayT (contractT t (List.replicate t.2.2.length zI)).1 = true := (contract_within (by rw [hc])).1
      have l1 := still_loop1 200 (by decide) t (mAll t.2.1 t.2.2) (contractT t (List.replicate t.2.2.length zI)).1 (fun i hi => by rw [hc]; exact s1 i hi) (by omega) (t.2.2.length + 1) 0 200 (by omega) (by omega)
      rw [show ((0 : Nat) : Int) = 0 from rfl] at l1
      simp only [Bool.not_true, cond_false]
      erw [l0]
      simp only [Option.bind_some, Sum.elim_inl]
      erw [flow_Contract_eq 200 (by decide) t (List.replicate t.2.2.length zI) hw hr]
      have e : ((contractT t (List.replicate t.2.2.length zI)).2 != 0) = false := by rw [hc]; rfl
      simp only [Option.bind_some, e, cond_false]
      erw [l1]
      simp only [Option.bind_some, Sum.elim_inr, Sum.elim_inl, tube_Empty_eq 200 (show 100 ≤ 200 by decide), hmay]
      rw [hc, s2]
      simp
end Go.Proofs.Ytmlnohiaagmgnaa.Rf.Pl
