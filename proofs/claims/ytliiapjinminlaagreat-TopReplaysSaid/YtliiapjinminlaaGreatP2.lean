/- Plain laws: what the functions answer, without the program's memory (part 2). No condition. -/
import Derived.Test.YtliiapjinminlaaGreatP1
import Derived.KernelRfl
import Derived.DataShut
import Derived.Laws.BitsLemmas
import Derived.Lib.EndianBits
namespace Go.Proofs.YtliiapjinminlaaGreat.Rf.Pl
open Go Go.Proofs
set_option linter.unusedVariables false
set_option linter.unusedSimpArgs false
theorem within_none_iff {z : Iv} {e : Iv} (he : (fairI e).1 = true) (h : within z e = true) : (fairI z).1 = true := by
 rw [within_iff] at h
 rcases h with h | ⟨h, _⟩
 ·exact h
 ·rw [he] at h; cases h
theorem within_of_none {z : Iv} (h : (fairI z).1 = true) (e : Iv) : within z e = true := by rw [within_iff]; exact .inl h
theorem meet_full {l : List Iv} (h : ∀ x ∈ l, (fairI x).1 = false) : meet l = mkI (most (losOf l)) (least (hisOf l)) := by
 unfold meet
 rw [if_pos]
 simp only [List.all_eq_true]
 intro x hx; simp [h x hx]
theorem mayI_meet (l : List Iv) : mayI (meet l) = true := by
 unfold meet; split
 ·exact mayI_mkI _ _
 ·exact mayI_noneI
theorem meet_glb {l : List Iv} {z : Iv} (hl : l ≠ []) (h : ∀ x ∈ l, within z x = true) : within z (meet l) = true := by
 cases hz : (fairI z).1
 ·have hf : ∀ x ∈ l, (fairI x).1 = false := fun x hx => by
   cases hx1 : (fairI x).1
   ·rfl
   ·have := within_none_iff hx1 (h x hx); rw [hz] at this; cases this
  have g : ∀ x ∈ l, cmp (fairI x).2.1 (fairI z).2.1 <= 0 /\ cmp (fairI z).2.2 (fairI x).2.2 <= 0 := fun x hx => by
   have := h x hx
   rw [within_iff, hz] at this
   rcases this with h | h
   ·cases h
   ·exact h.2
  obtain ⟨f1, f2, f3, f4, f5, f6⟩ := fair_low hz
  have a1 : cmp (most (losOf l)) (fairI z).2.1 <= 0 := most_le fun n hn => by
   obtain ⟨x, hx, _, rfl⟩ := mem_losOf.1 hn; exact (g x hx).1
  have a2 : cmp (fairI z).2.2 (least (hisOf l)) <= 0 := le_least fun n hn => by
   obtain ⟨x, hx, _, rfl⟩ := mem_hisOf.1 hn; exact (g x hx).2
  have e : meet l = (false, fair (most (losOf l)), fair (least (hisOf l))) := by
   rw [meet_full hf]
   refine mkI_may (cmp_le_trans a1 (cmp_le_trans f3 a2)) ?_ ?_
   ·rw [fair_may (most_may _)]; exact ne_inf_of_le (most_may _) f1 a1 f4
   ·rw [fair_may (least_may _)]; exact ne_inf_of_ge f2 (least_may _) a2 f5
  rw [within_iff, fairI_may (mayI_meet l), e]
  right
  simp only [cmp_fair_l, cmp_fair_r]
  exact ⟨trivial, a1, a2⟩
 ·exact within_of_none hz _
theorem two_glb {a b z : Iv} (h1 : within z a = true) (h2 : within z b = true) : within z (two a b) = true := by
 rw [<- meet_two]
 refine meet_glb (by simp) fun x hx => ?_
 simp only [List.mem_cons, List.not_mem_nil, or_false] at hx
 rcases hx with rfl | rfl
 ·exact h1
 ·exact h2
abbrev zI : Iv := (false, zN, zN)
theorem mkI_zz : mkI zN zN = zI := by rw [mkI_point]; rfl
theorem bad_zI : bad zI = false := by decide
theorem addv_z {a : Nm} (up : Bool) : addv a zN up = a := by unfold addv; simp
theorem mulv_z (b : Nm) (up : Bool) : mulv zN b up = zN := by unfold mulv; simp
theorem fair_zN : fair zN = zN := rfl
theorem addI_z {x : Iv} (h : mayI x = true) : addI x zI = x := by
 unfold addI
 rw [bad_zI, Bool.or_false]
 cases hx : x.1
 ·obtain ⟨e, m1, m2, m3, m4, m5⟩ := mayI_full h hx
  have hb : bad x = false := by unfold bad; rw [hx, h]; rfl
  rw [hb]
  simp only [Bool.false_eq_true, if_false, fair_zN, addv_z]
  rw [mkI_may (by simpa only [cmp_fair_l, cmp_fair_r] using m3) (by rw [fair_fair, fair_may m1]; exact m4) (by rw [fair_fair, fair_may m2]; exact m5), fair_fair, fair_fair, fair_may m1, fair_may m2]
  exact e.symm
 ·have hb : bad x = true := by unfold bad; rw [hx]; rfl
  rw [hb, if_pos rfl, mayI_none h hx]
theorem negI_z : negI zI = zI := by decide
theorem subI_z {x : Iv} (h : mayI x = true) : subI x zI = x := by unfold subI; rw [negI_z, addI_z h]
theorem mulI_z {y : Iv} (h : bad y = false) : mulI zI y = zI := by
 unfold mulI
 rw [bad_zI, h]
 simp only [Bool.or_self, Bool.false_eq_true, if_false, fair_zN, mulv_z]
 have e1 : least [zN, zN, zN, zN] = zN := by decide
 have e2 : most [zN, zN, zN, zN] = zN := by decide
 rw [e1, e2, mkI_zz]
theorem mag_lt {m1 m2 e1 e2 f : Int} (a1 : 9223372036854775808 <= m1) (a2 : m2 < 18446744073709551616) (b2 : 9223372036854775808 <= m2) (f1 : f <= e1) (f2 : f <= e2) (h : e2 < e1 \/ e2 = e1 /\ m2 < m1) : m2 * 2 ^ (e2 - f).toNat < m1 * 2 ^ (e1 - f).toNat := by
 rcases h with h | ⟨rfl, h⟩
 ·obtain ⟨d, hd⟩ : ∃ d : Nat, (e1 - f).toNat = (d + 1) + (e2 - f).toNat := ⟨((e1 - f).toNat - (e2 - f).toNat) - 1, by omega⟩
  rw [hd, p2_add, <- Int.mul_assoc]
  refine mul_lt_p _ ?_
  have := p2_mono (i := 1) (j := d + 1) (by omega)
  rw [Int.pow_one] at this
  have := Int.mul_le_mul_of_nonneg_left this (show 0 <= m1 by omega)
  omega
 ·exact mul_lt_p _ h
theorem grw_pos {q E : Int} (q0 : 9223372036854775808 <= q) (q1 : q < 18446744073709551616) (c : Bool) :
  cmp (grw false q E c false) (grw false q E c true) <= 0 /\ grw false q E c false ≠ inf false /\ grw false q E c true ≠ inf true /\ cmp zN (grw false q E c true) <= 0 := by
 have m1 := fairP (grw_may (neg := false) (m := q) (e := E) (cut := c) (away := false) q0 q1)
 have m2 := fairP (grw_may (neg := false) (m := q) (e := E) (cut := c) (away := true) q0 q1)
 rw [cmp_le, cmp_le, m1, m2, fair_zN]
 unfold grw bnd tri tlt
 cases c
 ·simp only [Bool.false_eq_true, false_and, and_false, if_false]
  by_cases h1 : E > 1048576
  ·simp [h1]
  ·by_cases h2 : E < -1048576
   ·simp [h1, h2]
   ·simp [h1, h2]
 ·simp only [Bool.false_eq_true, true_and, and_false, if_false, and_true, if_true]
  by_cases h1 : E > 1048576
  ·have h3 : E + 1 > 1048576 := by omega
   by_cases h4 : q + 1 = 18446744073709551616
   ·simp [h1, h3, h4]
   ·simp [h1, h4]
  ·by_cases h2 : E < -1048576
   ·have h3 : ¬ E + 1 > 1048576 := by omega
    by_cases h4 : q + 1 = 18446744073709551616
    ·by_cases h5 : E + 1 < -1048576
     ·simp [h1, h2, h3, h4, h5]
     ·simp [h1, h2, h3, h4, h5]
    ·simp [h1, h2, h4]
   ·by_cases h4 : q + 1 = 18446744073709551616
    ·by_cases h3 : E + 1 > 1048576
     ·simp [h1, h2, h3, h4]
     ·have h5 : ¬ E + 1 < -1048576 := by omega
      simp [h1, h2, h3, h4, h5]; omega
    ·simp [h1, h2, h4]; omega
theorem sub_pos {a b : Nm} (ha : mayP a) (hb : mayP b) (ha2 : a.1 ≠ 2) (hb2 : b.1 ≠ 2) (h : cmp b a > 0) :
  cmp (addv b (ngv a) false) (addv b (ngv a) true) <= 0 /\ addv b (ngv a) false ≠ inf false /\ addv b (ngv a) true ≠ inf true /\ cmp zN (addv b (ngv a) true) <= 0 := by
 rw [cmp_pos, cmp_lt, fairP ha, fairP hb] at h
 have one : ∀ n : Nm, mayP n -> n.1 = 1 -> n.2.1 = false -> cmp n n <= 0 /\ n ≠ inf false /\ n ≠ inf true /\ cmp zN n <= 0 := fun n hn h1 h2 => by
  refine ⟨by rw [cmp_self]; decide, fun e => absurd (e ▸ h1 : (inf false).1 = 1) (by decide), fun e => absurd (e ▸ h1 : (inf true).1 = 1) (by decide), ?_⟩
  rw [cmp_le, fairP hn, fair_zN]
  unfold tri tlt
  rw [h2]
  simp [h1]
 have val : ∀ s e : Int, 0 < s -> cmp (rnz s e false) (rnz s e true) <= 0 /\ rnz s e false ≠ inf false /\ rnz s e true ≠ inf true /\ cmp zN (rnz s e true) <= 0 := fun s e hs => by
  have e1 : ∀ up, rnz s e up = rnd false s e up := fun up => by
   unfold rnz
   rw [if_neg (by omega), decide_eq_false (by omega), Int.natAbs_of_nonneg (by omega)]
   cases up <;> rfl
  obtain ⟨q, E, c, hf⟩ := fit_ex e hs
  rw [e1, e1, rnd_fit hf, rnd_fit hf]
  exact grw_pos hf.1 hf.2.1 c
 obtain ⟨a1, an, am, ae⟩ := a
 obtain ⟨b1, bn, bm, be⟩ := b
 rcases ha with ⟨h1, h2, h3, h4⟩ | ⟨h1, h2, h3, h4, h5⟩ | ⟨h1, _⟩
 ·simp only at h1 h2 h3 h4
  subst h1 h2 h3 h4
  rcases hb with ⟨g1, g2, g3, g4⟩ | ⟨g1, g2, g3, g4, g5⟩ | ⟨g1, _⟩
  ·simp only at g1 g2 g3 g4
   subst g1 g2 g3 g4
   simp [tri, tlt] at h
  ·simp only at g1; subst g1
   have hbn : bn = false := by cases bn <;> simp [tri, tlt] at h ⊢
   subst hbn
   have e : ∀ up, addv (1, false, bm, be) (ngv (0, false, 0, 0)) up = (1, false, bm, be) := fun up => by unfold addv ngv; simp
   rw [e, e]
   exact one _ (.inr (.inl ⟨rfl, g2, g3, g4, g5⟩)) rfl rfl
  ·exact absurd g1 hb2
 ·simp only at h1; subst h1
  rcases hb with ⟨g1, g2, g3, g4⟩ | ⟨g1, g2, g3, g4, g5⟩ | ⟨g1, _⟩
  ·simp only at g1 g2 g3 g4
   subst g1 g2 g3 g4
   have han : an = true := by cases an <;> simp [tri, tlt] at h ⊢
   subst han
   have e : ∀ up, addv (0, false, 0, 0) (ngv (1, true, am, ae)) up = (1, false, am, ae) := fun up => by unfold addv ngv; simp
   rw [e, e]
   exact one _ (.inr (.inl ⟨rfl, h2, h3, h4, h5⟩)) rfl rfl
  ·simp only at g1 g2 g3 g4 g5 h2 h3 h4 h5; subst g1
   have e : ngv (1, an, am, ae) = (1, !an, am, ae) := by unfold ngv; simp
   rw [e, addv_fin rfl rfl, addv_fin rfl rfl]
   refine val _ _ ?_
   simp only [exs]
   have p1 := Int.mul_pos (show 0 < bm by omega) (p2_pos (be - min be ae).toNat)
   have p2 := Int.mul_pos (show 0 < am by omega) (p2_pos (ae - min be ae).toNat)
   cases an <;> cases bn <;> simp [tri, tlt] at h <;> simp only [sg, Bool.not_false, Bool.not_true, if_true, Bool.false_eq_true, if_false, Int.neg_mul]
   ·have := mag_lt (f := min be ae) g2 h3 h2 (by omega) (by omega) (by omega : ae < be \/ ae = be /\ am < bm)
    omega
   ·omega
   ·have := mag_lt (f := min be ae) h2 g3 g2 (by omega) (by omega) (by omega : be < ae \/ be = ae /\ bm < am)
    omega
  ·exact absurd g1 hb2
 ·exact absurd h1 ha2
theorem okS_lt {l : List Sl} : ∀ {w : Nm} {i : Nat}, okS w l = true -> i < l.length -> cmp (slG l i).1 (match i with | 0 => w | i + 1 => (slG l i).1) > 0 /\ finite (slG l i).1 = true := by
 induction l with
 | nil => intro w i h hi; simp at hi
 | cons x l ih =>
  intro w i h hi
  simp only [okS, Bool.and_eq_true, decide_eq_true_eq] at h
  cases i with
  | zero => exact ⟨h.1.1.1.2, h.1.1.1.1⟩
  | succ i =>
   have := ih (i := i) h.2 (by simpa using hi)
   cases i with
   | zero => exact this
   | succ i => exact this
theorem time_fin {t : Tb} (h : mayT t = true) {i : Nat} (hi : i <= t.2.2.length) : finite (timeN t i) = true := by
 rw [mayT_iff] at h
 cases i with
 | zero => exact h.1
 | succ i => exact (okS_lt h.2.2.2 hi).2
theorem time_lt {t : Tb} (h : mayT t = true) {i : Nat} (hi : i < t.2.2.length) : cmp (timeN t (i + 1)) (timeN t i) > 0 := by
 rw [mayT_iff] at h
 have := (okS_lt h.2.2.2 hi).1
 cases i with
 | zero => exact this
 | succ i => exact this
theorem finite_iff {n : Nm} : finite n = true ↔ may n = true /\ n.1 ≠ 2 := by
 simp [finite]
theorem dt_bad {t : Tb} (h : mayT t = true) (hw : wfT t) {i : Nat} (hi : i < t.2.2.length) : bad (dtI t i) = false /\ bad (mkI zN (dtI t i).2.2) = false := by
 obtain ⟨f1, f2⟩ := finite_iff.1 (time_fin h (show i + 1 <= t.2.2.length by omega))
 obtain ⟨f3, f4⟩ := finite_iff.1 (time_fin h (show i <= t.2.2.length by omega))
 have p1 := mayP_of f1 (wfN_time hw (show i + 1 <= t.2.2.length by omega))
 have p2 := mayP_of f3 (wfN_time hw (show i <= t.2.2.length by omega))
 obtain ⟨a1, a2, a3, a4⟩ := sub_pos p2 p1 f4 f2 (time_lt h hi)
 have e : dtI t i = (false, addv (timeN t (i + 1)) (ngv (timeN t i)) false, addv (timeN t (i + 1)) (ngv (timeN t i)) true) := by
  have q : ∀ up, fair (addv (timeN t (i + 1)) (ngv (timeN t i)) up) = addv (timeN t (i + 1)) (ngv (timeN t i)) up := fun up => fairP (addv_may up p1 (ngv_may p2))
  unfold dtI
  rw [fairP p1, neg_eq p2, mkI_may a1 (by rw [q]; exact a2) (by rw [q]; exact a3), q, q]
 have m : ∀ x y : Nm, (mkI x y).1 = false -> bad (mkI x y) = false := fun x y hh => by unfold bad; rw [hh, mayI_mkI]; rfl
 refine ⟨?_, ?_⟩
 ·have := congrArg Prod.fst e
  exact m _ _ this
 ·refine m _ _ ?_
  rw [e]
  simp only
  have q := fairP (addv_may true p1 (ngv_may p2))
  rw [mkI_may a4 (by rw [fair_zN]; decide) (by rw [q]; exact a3)]
def Zr (r : List Iv) : Prop := ∀ i, i < r.length -> rtG r i = zI
theorem run_z {r : List Iv} (hz : Zr r) {t : Tb} (h : mayT t = true) (hw : wfT t) {i : Nat} (hi : i < t.2.2.length) (hl : r.length = t.2.2.length) : runA r t i = zI /\ runB r t i = zI := by
 obtain ⟨b1, b2⟩ := dt_bad h hw hi
 unfold runA runB
 rw [hz i (by omega), mulI_z b1, mulI_z b2]
 exact ⟨rfl, rfl⟩
theorem mayI_gt {t : Tb} (h : mayT t = true) {i : Nat} (hi : i <= t.2.2.length) : mayI (gtN t i) = true := by
 cases i with
 | zero => exact (mayT_iff.1 h).2.1
 | succ i => exact (mayT_sl h hi).2
theorem fwd_z {r : List Iv} (hz : Zr r) {t : Tb} (h : mayT t = true) (hw : wfT t) {i : Nat} (hi : i < t.2.2.length) (hl : r.length = t.2.2.length) :
  fwd r t i = (t.1, t.2.1, t.2.2.set i ((slG t.2.2 i).1, two (slG t.2.2 i).2.1 (gtN t i), two (slG t.2.2 i).2.2 (gtN t i))) := by
 obtain ⟨e1, e2⟩ := run_z hz h hw hi hl
 unfold fwd
 rw [e1, e2, addI_z (mayI_gt h (by omega))]
theorem bwd_z {r : List Iv} (hz : Zr r) {t : Tb} (h : mayT t = true) (hw : wfT t) {i : Nat} (hi : i < t.2.2.length) (hl : r.length = t.2.2.length) :
  bwd r t i = ((setG t (two (gtN t i) (gtN t (i + 1))) i).1, (setG t (two (gtN t i) (gtN t (i + 1))) i).2.1, (setG t (two (gtN t i) (gtN t (i + 1))) i).2.2.set i ((slG t.2.2 i).1, two (slG t.2.2 i).2.1 (gtN t (i + 1)), (slG t.2.2 i).2.2)) := by
 obtain ⟨e1, e2⟩ := run_z hz h hw hi hl
 unfold bwd
 rw [e1, e2, subI_z (mayI_gt h (show i + 1 <= t.2.2.length by omega))]
def Under (M : Iv) (t : Tb) : Prop := within M t.2.1 = true /\ ∀ s ∈ t.2.2, within M s.2.1 = true /\ within M s.2.2 = true
theorem Under.gt {M : Iv} {t : Tb} (h : Under M t) {i : Nat} (hi : i <= t.2.2.length) : within M (gtN t i) = true := by
 cases i with
 | zero => exact h.1
 | succ i => exact (h.2 _ (slG_mem hi)).2
theorem Under.set {M : Iv} {t : Tb} (h : Under M t) {i : Nat} {s : Sl} (h1 : within M s.2.1 = true) (h2 : within M s.2.2 = true) : Under M (t.1, t.2.1, t.2.2.set i s) := by
 refine ⟨h.1, fun x hx => ?_⟩
 rcases List.mem_or_eq_of_mem_set hx with hx | rfl
 ·exact h.2 x hx
 ·exact ⟨h1, h2⟩
theorem Under.setG {M : Iv} {t : Tb} (h : Under M t) {i : Nat} {x : Iv} (hi : i <= t.2.2.length) (hx : within M x = true) : Under M (setG t x i) := by
 cases i with
 | zero => exact ⟨hx, h.2⟩
 | succ i => exact h.set (h.2 _ (slG_mem hi)).1 hx
theorem Under.fwd {M : Iv} {r : List Iv} (hz : Zr r) {t : Tb} (h : Under M t) (hm : mayT t = true) (hw : wfT t) {i : Nat} (hi : i < t.2.2.length) (hl : r.length = t.2.2.length) : Under M (fwd r t i) := by
 rw [fwd_z hz hm hw hi hl]
 have a := h.2 _ (slG_mem hi)
 have b := h.gt (show i <= t.2.2.length by omega)
 exact h.set (two_glb a.1 b) (two_glb a.2 b)
theorem Under.bwd {M : Iv} {r : List Iv} (hz : Zr r) {t : Tb} (h : Under M t) (hm : mayT t = true) (hw : wfT t) {i : Nat} (hi : i < t.2.2.length) (hl : r.length = t.2.2.length) : Under M (bwd r t i) := by
 rw [bwd_z hz hm hw hi hl]
 have a := h.2 _ (slG_mem hi)
 have b := h.gt (show i <= t.2.2.length by omega)
 have c := h.gt (show i + 1 <= t.2.2.length by omega)
 exact (h.setG (i := i) (by omega) (two_glb b c)).set (two_glb a.1 c) a.2
theorem Under.fwds {M : Iv} {r : List Iv} (hz : Zr r) (hr : ∀ x ∈ r, wfI x) : ∀ (j i : Nat) (t : Tb), i + j = t.2.2.length -> r.length = t.2.2.length -> mayT t = true -> wfT t -> Under M t -> Under M (fwds r j i t)
 | 0, i, t, hi, hl, hm, hw, h => h
 | j + 1, i, t, hi, hl, hm, hw, h => by
  have ln := fwd_len r t i
  exact Under.fwds hz hr j (i + 1) _ (by omega) (by omega) (mayT_fwd hm) (wfT_fwd hr (by omega) hw (by omega)) (h.fwd hz hm hw (by omega) hl)
theorem Under.bwds {M : Iv} {r : List Iv} (hz : Zr r) (hr : ∀ x ∈ r, wfI x) : ∀ (j : Nat) (t : Tb), j <= t.2.2.length -> r.length = t.2.2.length -> mayT t = true -> wfT t -> Under M t -> Under M (bwds r j t)
 | 0, t, hj, hl, hm, hw, h => h
 | j + 1, t, hj, hl, hm, hw, h => by
  have ln := bwd_len r t j
  exact Under.bwds hz hr j _ (by omega) (by omega) (mayT_bwd hm (by omega)) (wfT_bwd hr (by omega) hw (by omega)) (h.bwd hz hm hw (by omega) hl)
theorem Under.fitN {M : Iv} : ∀ (l : List Sl) (n : Option Sl), (∀ s ∈ l, within M s.2.1 = true /\ within M s.2.2 = true) -> (∀ x, n = some x -> within M x.2.1 = true) -> ∀ s ∈ fitN l n, within M s.2.1 = true /\ within M s.2.2 = true
 | [], n, h, hn, s, hs => by simp [Pl.fitN] at hs
 | y :: l, n, h, hn, s, hs => by
  rw [fitN_cons] at hs
  rcases List.mem_cons.1 hs with rfl | hs
  ·have hy := h y (by simp)
   refine ⟨hy.1, ?_⟩
   have hx : ∀ x, (l.head?.or n) = some x -> within M x.2.1 = true := fun x hx => by
    cases l with
    | nil => exact hn x (by simpa using hx)
    | cons z l =>
     have : z = x := by simpa using hx
     exact this ▸ (h z (by simp)).1
   show within M (g2 y (l.head?.or n)) = true
   cases hq : l.head?.or n with
   | none => exact two_glb hy.2 hy.1
   | some x => exact two_glb (two_glb hy.2 hy.1) (hx x hq)
  ·exact Under.fitN l n (fun s hs => h s (by simp [hs])) hn s hs
theorem Under.fitU {M : Iv} {t : Tb} (h : Under M t) : Under M (fitU t) := by
 refine ⟨?_, Under.fitN _ _ h.2 (fun x hx => by cases hx)⟩
 show within M (nx t.2.1 t.2.2) = true
 cases hl : t.2.2 with
 | nil => exact h.1
 | cons s l => exact two_glb h.1 (h.2 s (by rw [hl]; simp)).1
theorem mayI_fst {x : Iv} (h : x.1 = true) : (fairI x).1 = true := by
 unfold fairI; split
 ·exact h
 ·rfl
theorem Under.empty {M : Iv} {t : Tb} (h : Under M t) (he : emptyT t = true) : (fairI M).1 = true := by
 simp only [emptyT, Bool.or_eq_true, List.any_eq_true] at he
 rcases he with he | ⟨s, hs, he | he⟩
 ·exact within_none_iff (mayI_fst he) h.1
 ·exact within_none_iff (mayI_fst he) (h.2 s hs).1
 ·exact within_none_iff (mayI_fst he) (h.2 s hs).2
theorem Under.none {M : Iv} (h : (fairI M).1 = true) (t : Tb) : Under M t := ⟨within_of_none h _, fun _ _ => ⟨within_of_none h _, within_of_none h _⟩⟩
theorem Under.fitT {M : Iv} {t : Tb} (h : Under M t) : Under M (fitT t) := by
 unfold Pl.fitT
 split
 ·split
  ·rename_i he; exact Under.none (h.fitU.empty he) _
  ·exact h.fitU
 ·exact h
def U (l : List Int) : Prop := ∀ x ∈ l, 0 <= x /\ x < 4294967296
def val : List Int -> Int
 | [] => 0
 | x :: xs => x + 4294967296 * val xs
def limN (n : Nat) : List Int := if n = 0 then [] else ((n % 4294967296 : Nat) : Int) :: limN (n / 4294967296)
termination_by n
decreasing_by omega
def lim (n : Int) : List Int := limN n.toNat
theorem U_nil : U [] := fun _ h => by simp at h
theorem U_cons {x : Int} {l : List Int} : U (x :: l) ↔ (0 <= x /\ x < 4294967296) /\ U l := by simp [U]
theorem U_append {a b : List Int} : U (a ++ b) ↔ U a /\ U b := by
 simp only [U, List.mem_append]
 exact ⟨fun h => ⟨fun x hx => h x (.inl hx), fun x hx => h x (.inr hx)⟩, fun h x hx => hx.elim (h.1 x) (h.2 x)⟩
theorem U_take {l : List Int} (h : U l) (n : Nat) : U (l.take n) := fun x hx => h x (List.mem_of_mem_take hx)
theorem U_drop {l : List Int} (h : U l) (n : Nat) : U (l.drop n) := fun x hx => h x (List.mem_of_mem_drop hx)
theorem U_replicate (n : Nat) : U (List.replicate n (0 : Int)) := fun x hx => by
 have := List.eq_of_mem_replicate hx
 omega
theorem U_set {l : List Int} (h : U l) (i : Nat) {x : Int} (h0 : 0 <= x) (h1 : x < 4294967296) : U (l.set i x) := fun y hy => by
 rcases List.mem_or_eq_of_mem_set hy with hy | rfl
 ·exact h y hy
 ·exact ⟨h0, h1⟩
theorem U_getD {l : List Int} (h : U l) (i : Nat) : 0 <= l.getD i 0 /\ l.getD i 0 < 4294967296 := by
 rw [List.getD_eq_getElem?_getD]
 by_cases hi : i < l.length
 ·rw [List.getElem?_eq_getElem hi]
  exact h _ (List.getElem_mem hi)
 ·rw [List.getElem?_eq_none (by omega)]
  simp
theorem U_single {x : Int} (h0 : 0 <= x) (h1 : x < 4294967296) : U [x] := by simp [U, h0, h1]
def pw : Nat -> Int
 | 0 => 1
 | n + 1 => 4294967296 * pw n
theorem pw_eq (i : Nat) : pw i = 4294967296 ^ i := by
 induction i with
 | zero => rfl
 | succ i ih => rw [pw, ih, Int.pow_succ, Int.mul_comm]
theorem pw_pos (i : Nat) : 0 < pw i := by
 induction i with
 | zero => decide
 | succ i ih => rw [pw]; omega
@[simp] theorem pw_zero : pw 0 = 1 := rfl
theorem pw_succ (i : Nat) : pw (i + 1) = 4294967296 * pw i := rfl
theorem pw_add (i j : Nat) : pw (i + j) = pw i * pw j := by
 induction i with
 | zero => rw [Nat.zero_add, pw_zero, Int.one_mul]
 | succ i ih => rw [show i + 1 + j = (i + j) + 1 by omega, pw_succ, pw_succ, ih, Int.mul_assoc]
theorem pw_mono {i j : Nat} (h : i <= j) : pw i <= pw j := by
 obtain ⟨d, rfl⟩ := Nat.le.dest h
 rw [pw_add]
 have h1 := pw_pos i
 have h2 : 1 <= pw d := by have := pw_pos d; omega
 have := Int.mul_le_mul_of_nonneg_left h2 (c := pw i) (by omega)
 omega
@[simp] theorem val_nil : val [] = 0 := rfl
@[simp] theorem val_cons (x : Int) (l : List Int) : val (x :: l) = x + 4294967296 * val l := rfl
theorem val_nonneg {l : List Int} (h : U l) : 0 <= val l := by
 induction l with
 | nil => exact Int.le_refl 0
 | cons x l ih =>
  obtain ⟨h1, h2⟩ := U_cons.1 h
  have := ih h2
  rw [val_cons]
  omega
theorem val_lt {l : List Int} (h : U l) : val l < pw l.length := by
 induction l with
 | nil => decide
 | cons x l ih =>
  obtain ⟨h1, h2⟩ := U_cons.1 h
  have := ih h2
  rw [val_cons, List.length_cons, pw_succ]
  omega
theorem val_append (a b : List Int) : val (a ++ b) = val a + pw a.length * val b := by
 induction a with
 | nil => simp
 | cons x a ih =>
  rw [List.cons_append, val_cons, val_cons, ih, List.length_cons, pw_succ]
  grind
theorem val_replicate (n : Nat) : val (List.replicate n 0) = 0 := by
 induction n with
 | zero => rfl
 | succ n ih => rw [List.replicate_succ, val_cons, ih]; rfl
theorem val_split (l : List Int) (i : Nat) (h : i <= l.length) : val l = val (l.take i) + pw i * val (l.drop i) := by
 have := val_append (l.take i) (l.drop i)
 rw [List.take_append_drop, List.length_take, Nat.min_eq_left h] at this
 exact this
theorem drop_eq {l : List Int} {i : Nat} (h : i < l.length) : l.drop i = l.getD i 0 :: l.drop (i + 1) := by
 rw [List.drop_eq_getElem_cons h, List.getD_eq_getElem?_getD, List.getElem?_eq_getElem h]
 rfl
theorem val_drop {l : List Int} {i : Nat} (h : i < l.length) : val (l.drop i) = l.getD i 0 + 4294967296 * val (l.drop (i + 1)) := by rw [drop_eq h, val_cons]
theorem take_succ {l : List Int} {i : Nat} (h : i < l.length) : l.take (i + 1) = l.take i ++ [l.getD i 0] := by
 rw [List.take_succ_eq_append_getElem h, List.getD_eq_getElem?_getD, List.getElem?_eq_getElem h]
 rfl
theorem val_take_succ {l : List Int} {i : Nat} (h : i < l.length) : val (l.take (i + 1)) = val (l.take i) + pw i * l.getD i 0 := by
 rw [take_succ h, val_append, List.length_take, Nat.min_eq_left (by omega)]
 simp
theorem val_set {l : List Int} {i : Nat} (h : i < l.length) (x : Int) : val (l.set i x) = val l + pw i * (x - l.getD i 0) := by
 induction l generalizing i with
 | nil => simp at h
 | cons y l ih =>
  cases i with
  | zero => simp; omega
  | succ i =>
   have := ih (i := i) (by simpa using h)
   rw [List.set_cons_succ, val_cons, val_cons, this, pw_succ]
   have e : (y :: l).getD (i + 1) 0 = l.getD i 0 := rfl
   rw [e]
   grind
theorem take_set {l : List Int} {i : Nat} {x : Int} : (l.set i x).take i = l.take i := by
 rw [List.take_set_of_le (by omega)]
theorem getD_set_self {l : List Int} {i : Nat} (h : i < l.length) (x : Int) : (l.set i x).getD i 0 = x := by
 rw [List.getD_eq_getElem?_getD, List.getElem?_set_self h]
 rfl
theorem getD_set_ne {l : List Int} {i j : Nat} (h : i ≠ j) (x : Int) : (l.set i x).getD j 0 = l.getD j 0 := by
 rw [List.getD_eq_getElem?_getD, List.getElem?_set_ne h, List.getD_eq_getElem?_getD]
theorem drop_set_lt {l : List Int} {i j : Nat} (h : i < j) (x : Int) : (l.set i x).drop j = l.drop j := by
 rw [List.drop_set_of_lt h]
theorem limN_zero : limN 0 = [] := by unfold limN; simp
theorem limN_pos {n : Nat} (h : 0 < n) : limN n = ((n % 4294967296 : Nat) : Int) :: limN (n / 4294967296) := by
 rw [limN, if_neg (by omega)]
@[simp] theorem lim_zero : lim 0 = [] := limN_zero
theorem lim_pos {n : Int} (h : 0 < n) : lim n = (n % 4294967296) :: lim (n / 4294967296) := by
 unfold lim
 rw [limN_pos (by omega)]
 have e1 : ((n.toNat % 4294967296 : Nat) : Int) = n % 4294967296 := by omega
 have e2 : n.toNat / 4294967296 = (n / 4294967296).toNat := by omega
 rw [e1, e2]
theorem lim_ind {motive : (n : Int) -> 0 <= n -> Prop} (zero : motive 0 (by omega)) (pos : ∀ (n : Int) (h : 0 < n), motive (n / 4294967296) (by omega) -> motive n (by omega)) (n : Int) (h : 0 <= n) : motive n h := by
 obtain ⟨m, rfl⟩ : ∃ m : Nat, n = m := ⟨n.toNat, by omega⟩
 induction m using Nat.strongRecOn with
 | _ m ih =>
  by_cases hm : m = 0
  ·subst hm; exact zero
  ·exact pos m (by omega) (ih (m / 4294967296) (by omega) (by omega))
theorem val_lim {n : Int} (h : 0 <= n) : val (lim n) = n := by
 induction n, h using lim_ind with
 | zero => simp
 | pos n h ih => rw [lim_pos h, val_cons, ih]; omega
theorem U_lim {n : Int} (h : 0 <= n) : U (lim n) := by
 induction n, h using lim_ind with
 | zero => simpa using U_nil
 | pos n h ih => rw [lim_pos h]; exact U_cons.2 ⟨by omega, ih⟩
theorem lim_len {n : Int} (h : 0 <= n) (L : Nat) (hl : n < pw L) : (lim n).length <= L := by
 induction n, h using lim_ind generalizing L with
 | zero => simp
 | pos n h ih =>
  cases L with
  | zero => simp at hl; omega
  | succ L =>
   rw [lim_pos h, List.length_cons]
   have := ih L (by rw [pw_succ] at hl; omega)
   omega
theorem lim_len_gt {n : Int} (L : Nat) (hl : pw L <= n) : L < (lim n).length := by
 have h : 0 <= n := by have := pw_pos L; omega
 have h1 := val_lt (U_lim h)
 rw [val_lim h] at h1
 by_cases hq : L < (lim n).length
 ·exact hq
 ·have := pw_mono (i := (lim n).length) (j := L) (by omega)
  omega
theorem lim_ne_nil {n : Int} (h : 0 < n) : lim n ≠ [] := by rw [lim_pos h]; simp
theorem lim_nil_iff {n : Int} (h : 0 <= n) : (lim n).length = 0 ↔ n = 0 := by
 constructor
 ·intro h0
  have h1 : lim n = [] := List.eq_nil_of_length_eq_zero h0
  have := val_lim h
  rw [h1] at this
  simpa using this.symm
 ·rintro rfl; simp
theorem lim_last {n : Int} (h : 0 < n) : (lim n).getD ((lim n).length - 1) 0 ≠ 0 := by
 have h0 : 0 <= n := by omega
 have key : 0 < n -> (lim n).getD ((lim n).length - 1) 0 ≠ 0 := by
  induction n, h0 using lim_ind with
  | zero => intro h; omega
  | pos n h ih =>
   intro _
   rw [lim_pos h]
   by_cases hz : n / 4294967296 = 0
   ·rw [hz, lim_zero]
    simp
    omega
   ·have h1 := ih (by omega) (by omega)
    have h2 := lim_ne_nil (n := n / 4294967296) (by omega)
    have h3 : 0 < (lim (n / 4294967296)).length := List.length_pos_iff.2 h2
    have e : (n % 4294967296 :: lim (n / 4294967296)).length - 1 = ((lim (n / 4294967296)).length - 1) + 1 := by simp; omega
    rw [e]
    exact h1
 exact key h
theorem lim_of_norm {l : List Int} (h : U l) (hn : 0 < l.length -> l.getD (l.length - 1) 0 ≠ 0) : lim (val l) = l := by
 induction l with
 | nil => simp
 | cons x l ih =>
  obtain ⟨h1, h2⟩ := U_cons.1 h
  have h0 := val_nonneg h2
  have hpos : 0 < val (x :: l) := by
   rw [val_cons]
   cases l with
   | nil => have := hn (by simp); simp at this; simp; omega
   | cons y l =>
    have h3 := ih h2 (fun _ => hn (by simp))
    by_cases hz : val (y :: l) = 0
    ·rw [hz] at h3; simp at h3
    ·omega
  rw [lim_pos hpos, val_cons]
  have e1 : (x + 4294967296 * val l) % 4294967296 = x := by omega
  have e2 : (x + 4294967296 * val l) / 4294967296 = val l := by omega
  rw [e1, e2, ih h2]
  intro hl
  have := hn (by simp)
  rw [List.length_cons, Nat.add_sub_cancel] at this
  obtain ⟨m, hm⟩ : ∃ m, l.length = m + 1 := ⟨l.length - 1, by omega⟩
  rw [hm] at this ⊢
  exact this
theorem val_take_last {l : List Int} (h0 : 0 < l.length) (hz : l.getD (l.length - 1) 0 = 0) : val (l.take (l.length - 1)) = val l := by
 have h1 := val_take_succ (l := l) (i := l.length - 1) (by omega)
 rw [hz, show l.length - 1 + 1 = l.length by omega, List.take_length] at h1
 omega
theorem val_lt_top {a b : List Int} {k : Nat} (ha : U a) (hb : U b) (hka : k < a.length) (hkb : k < b.length) (hd : a.drop (k + 1) = b.drop (k + 1)) (hlt : a.getD k 0 < b.getD k 0) : val a < val b := by
 rw [val_split a k (by omega), val_split b k (by omega), val_drop hka, val_drop hkb, hd]
 have h1 := val_lt (U_take ha k)
 have h2 := val_nonneg (U_take hb k)
 rw [List.length_take, Nat.min_eq_left (by omega)] at h1
 have h3 : pw k * (a.getD k 0 + 1) <= pw k * b.getD k 0 := Int.mul_le_mul_of_nonneg_left (by omega) (by have := pw_pos k; omega)
 grind
theorem lim_len_lt {a b : Int} (ha : 0 <= a) (h : (lim a).length < (lim b).length) : a < b := by
 by_cases hq : a < b
 ·exact hq
 ·have hb : b < pw (lim a).length := by
   have := val_lt (U_lim ha)
   rw [val_lim ha] at this
   omega
  by_cases hb0 : 0 <= b
  ·have := lim_len hb0 _ hb
   omega
  ·have hz : b.toNat = 0 := by omega
   unfold lim at h
   rw [hz, limN_zero] at h
   simp at h
def sgz (x : Int) : Int := if x < 0 then -1 else if 0 < x then 1 else 0
theorem sgz_neg {x : Int} (h : x < 0) : sgz x = -1 := by simp [sgz, h]
theorem sgz_pos {x : Int} (h : 0 < x) : sgz x = 1 := by unfold sgz; rw [if_neg (by omega), if_pos h]
theorem sgz_zero : sgz 0 = 0 := rfl
theorem p2_limb (i : Nat) : pw i = 2 ^ (32 * i) := by
 rw [pw_eq, Int.pow_mul]
 rfl
theorem val_top {n : Int} (h : 0 < n) : n / pw ((lim n).length - 1) = (lim n).getD ((lim n).length - 1) 0 := by
 have hl : 0 < (lim n).length := List.length_pos_iff.2 (lim_ne_nil h)
 have hu := U_lim (n := n) (by omega)
 have e := val_split (lim n) ((lim n).length - 1) (by omega)
 rw [val_lim (by omega), val_drop (by omega), show (lim n).length - 1 + 1 = (lim n).length by omega, List.drop_length, val_nil] at e
 have h1 := val_lt (U_take hu ((lim n).length - 1))
 have h2 := val_nonneg (U_take hu ((lim n).length - 1))
 rw [List.length_take, Nat.min_eq_left (by omega)] at h1
 have hp := pw_pos ((lim n).length - 1)
 rw [Int.mul_zero, Int.add_zero] at e
 have key : ∀ (A p t : Int), 0 <= A -> A < p -> 0 < p -> (A + p * t) / p = t := fun A p t a1 a2 a3 => by
  rw [Int.add_mul_ediv_left _ _ (by omega), Int.ediv_eq_zero_of_lt a1 a2]
  omega
 have e5 := key _ _ ((lim n).getD ((lim n).length - 1) 0) h2 h1 hp
 rw [<- e] at e5
 exact e5
theorem val_full {l : List Int} {n : Nat} (h : l.length = n + 1) : val l = val (l.take n) + pw n * l.getD n 0 := by
 have := val_take_succ (l := l) (i := n) (by omega)
 rw [<- h, List.take_length] at this
 exact this
theorem take_out (l : List Int) (i : Nat) (h : l.length <= i) : l.take i = l := List.take_of_length_le h
theorem getD_out (l : List Int) (i : Nat) (h : l.length <= i) : l.getD i 0 = 0 := by
 rw [List.getD_eq_getElem?_getD, List.getElem?_eq_none h]
 rfl
theorem val_take_succ' (l : List Int) (i : Nat) : val (l.take (i + 1)) = val (l.take i) + pw i * l.getD i 0 := by
 by_cases h : i < l.length
 ·exact val_take_succ h
 ·rw [take_out l _ (by omega), take_out l _ (by omega), getD_out l i (by omega), Int.mul_zero, Int.add_zero]
theorem val_set_take {l : List Int} {i : Nat} (h : i < l.length) (x : Int) : val ((l.set i x).take (i + 1)) = val (l.take i) + pw i * x := by
 rw [val_take_succ (by simpa using h), take_set, getD_set_self h]
theorem step_add {P A A1 B1 c x y r q : Int} (e : r + 4294967296 * q = x + y + c) (he : A + P * c = A1 + B1) : A + P * r + 4294967296 * P * q = A1 + P * x + (B1 + P * y) := by
 have h : P * (r + 4294967296 * q) = P * (x + y + c) := by rw [e]
 grind
theorem lim_len_mono {a b : Int} (ha : 0 <= a) (h : a <= b) : (lim a).length <= (lim b).length := by
 by_cases hq : (lim b).length < (lim a).length
 ·have := lim_len_lt (a := b) (b := a) (by omega) hq
  omega
 ·omega
def shlv (v n : Int) : Int := if n < 1 then v else if n > 16777216 then 0 else v * 2 ^ n.toNat
theorem val_div {l : List Int} (h : U l) {i : Nat} (hi : i <= l.length) : val l / pw i = val (l.drop i) := by
 have e := val_split l i hi
 have h1 := val_lt (U_take h i)
 have h2 := val_nonneg (U_take h i)
 rw [List.length_take, Nat.min_eq_left hi] at h1
 have hp := pw_pos i
 have key : ∀ (A p t : Int), 0 <= A -> A < p -> 0 < p -> (A + p * t) / p = t := fun A p t a1 a2 a3 => by
  rw [Int.add_mul_ediv_left _ _ (by omega), Int.ediv_eq_zero_of_lt a1 a2]
  omega
 have e5 := key _ _ (val (l.drop i)) h2 h1 hp
 rw [<- e] at e5
 exact e5
theorem val_drop' (l : List Int) (i : Nat) : val (l.drop i) = l.getD i 0 + 4294967296 * val (l.drop (i + 1)) := by
 by_cases h : i < l.length
 ·exact val_drop h
 ·rw [List.drop_of_length_le (by omega), List.drop_of_length_le (by omega), getD_out l i (by omega)]
  rfl
def shrv (v n : Int) : Int := if n < 1 then v else v / 2 ^ n.toNat
theorem val_zero_of {l : List Int} (h : ∀ q, l.getD q 0 = 0) : val l = 0 := by
 induction l with
 | nil => rfl
 | cons x l ih =>
  have h0 : x = 0 := h 0
  rw [val_cons, ih (fun q => h (q + 1)), h0]
  rfl
theorem zeros_above {l : List Int} (hu : U l) {j : Nat} (h : val l < pw j) (q : Nat) (hq : j <= q) : l.getD q 0 = 0 := by
 by_cases hl : q < l.length
 ·have e := val_split l q (by omega)
  rw [val_drop hl] at e
  have h1 := val_nonneg (U_take hu q)
  have h2 := val_nonneg (U_drop hu (q + 1))
  have h3 := U_getD hu q
  have hm := pw_mono hq
  have hp := pw_pos q
  by_cases hz : l.getD q 0 = 0
  ·exact hz
  ·have := Int.mul_le_mul_of_nonneg_left (show 1 <= l.getD q 0 + 4294967296 * val (l.drop (q + 1)) by omega) (show 0 <= pw q by omega)
   omega
 ·exact getD_out l q (by omega)
theorem val_take_of_lt {l : List Int} (hu : U l) {j : Nat} (h : val l < pw j) : val (l.take j) = val l := by
 by_cases hl : j <= l.length
 ·have e := val_split l j hl
  have h0 := val_nonneg (U_take hu j)
  have h1 := val_nonneg (U_drop hu j)
  have hp := pw_pos j
  by_cases hz : val (l.drop j) = 0
  ·rw [hz, Int.mul_zero] at e; omega
  ·have := Int.mul_le_mul_of_nonneg_left (show 1 <= val (l.drop j) by omega) (show 0 <= pw j by omega)
   omega
 ·rw [take_out l j (by omega)]
abbrev Dd := Bool × List Int × Int
def Rep (d : Dd) (s f : Int) : Prop := (s = 0 /\ d = (false, [], 0)) \/ ∃ (o : Int) (t : Nat), 0 < o /\ o % 2 = 1 /\ s ≠ 0 /\ (s.natAbs : Int) = o * 2 ^ t /\ d = (decide (s < 0), lim o, f + t)
theorem Rep.scale {d : Dd} {s f : Int} (j : Nat) (h : Rep d s (f + j)) : Rep d (s * 2 ^ j) f := by
 have hp := p2_pos j
 rcases h with ⟨rfl, h⟩ | ⟨o, t, o0, o1, s0, hs, hd⟩
 ·exact .inl ⟨by omega, h⟩
 ·refine .inr ⟨o, t + j, o0, o1, Int.mul_ne_zero s0 (by omega), ?_, ?_⟩
  ·rw [Int.natAbs_mul, Int.natCast_mul, show ((((2 : Int) ^ j).natAbs : Nat) : Int) = 2 ^ j from Int.natAbs_of_nonneg (by omega), hs, p2_add, Int.mul_assoc]
  ·rw [hd]
   have : decide (s * 2 ^ j < 0) = decide (s < 0) := by
    by_cases h2 : s < 0
    ·rw [decide_eq_true h2, decide_eq_true (Int.mul_neg_of_neg_of_pos h2 hp)]
    ·rw [decide_eq_false h2, decide_eq_false]
     have := Int.mul_pos (show 0 < s by omega) hp
     omega
   rw [this]
   congr 2
   omega
theorem gd {l : List Int} {i : Nat} (h : i < l.length) : l[i]? = some (l.getD i 0) := by
 rw [List.getElem?_eq_getElem h, List.getD_eq_getElem?_getD, List.getElem?_eq_getElem h]; rfl
theorem wsu {i : Nat} (h : i < 4611686018427387904) : IntKind.i64.wrap ((i : Int) + 1) = ((i + 1 : Nat) : Int) := by rw [w64 (by omega) (by omega)]; omega
theorem wpr {i : Nat} (h : i < 4611686018427387904) : IntKind.i64.wrap (((i + 1 : Nat) : Int) - 1) = (i : Int) := by rw [w64 (by omega) (by omega)]; omega
theorem u32w {x : Int} (h0 : 0 <= x) (h1 : x < 4294967296) : IntKind.u32.wrap x = x := by
 simp only [IntKind.wrap, IntKind.bits, IntKind.signed]
 simp
 omega
theorem cut_l0 (k : Nat) : ∀ (n : Nat) (l : List Int) (m : Nat), l.length = n -> n < m -> U l -> n <= 1073741824 -> nat_cut_l0 k m ((l, ()), ()) = some (Sum.inl ((lim (val l), ()), ())) := by
 intro n
 induction n with
 | zero =>
  intro l m hn hm h hb
  obtain ⟨m, rfl⟩ : ∃ i, m = i + 1 := ⟨m - 1, by omega⟩
  have : l = [] := List.eq_nil_of_length_eq_zero hn
  subst this
  have e : ¬ ((([] : List Int).length : Nat) : Int) > 0 := by decide
  simp only [nat_cut_l0, cond_f e]
  rw [val_nil, show lim 0 = [] from limN_zero]
 | succ n ih =>
  intro l m hn hm h hb
  obtain ⟨m, rfl⟩ : ∃ i, m = i + 1 := ⟨m - 1, by omega⟩
  have e : (l.length : Int) > 0 := by omega
  have hw : IntKind.i64.wrap ((l.length : Int) - 1) = ((l.length - 1 : Nat) : Int) := by rw [w64 (by omega) (by omega)]; omega
  have ht : List.drop (Int.toNat 0) (List.take (Int.toNat ((l.length - 1 : Nat) : Int)) l) = l.take (l.length - 1) := by rw [Int.toNat_natCast]; rfl
  have hc : (0 : Int) <= 0 /\ 0 <= ((l.length - 1 : Nat) : Int) /\ ((l.length - 1 : Nat) : Int) <= (l.length : Int) := ⟨by omega, by omega, by omega⟩
  simp only [nat_cut_l0, cond_t e, hw, if_pos (Int.natCast_nonneg (l.length - 1)), Int.toNat_natCast, gd (show l.length - 1 < l.length by omega), Option.bind_some]
  by_cases hz : l.getD (l.length - 1) 0 = 0
  ·rw [beq_t hz, cond_true, if_pos hc]
   rw [show List.drop (Int.toNat 0) (List.take (l.length - 1) l) = l.take (l.length - 1) from rfl]
   rw [ih (l.take (l.length - 1)) m (by rw [List.length_take]; omega) (by omega) (U_take h _) (by omega), val_take_last (by omega) hz]
  ·rw [beq_f hz, cond_false, lim_of_norm h (fun _ => hz)]
theorem cut_eq (l : List Int) (h : U l) (hb : l.length <= 1073741824) (k : Nat) (hk : l.length + 1 <= k) : nat_cut k l = some (lim (val l), ()) := by
 simp only [nat_cut]
 rw [cut_l0 k l.length l k rfl (by omega) h hb]
 rfl
theorem cut_ev (l : List Int) (h : U l) (hb : l.length <= 1073741824) : ∃ K, ∀ k, K <= k -> nat_cut k l = some (lim (val l), ()) := ⟨l.length + 1, fun k hk => cut_eq l h hb k hk⟩
theorem shrR32 {x : Int} {s : Nat} (hs : s <= 32) : Int.fdiv x (2 ^ min (Int.toNat (s : Int)) IntKind.u32.bits) = x / 2 ^ s := by
 rw [Int.toNat_natCast, show IntKind.u32.bits = 32 from rfl, Nat.min_eq_left hs, Int.fdiv_eq_ediv_of_nonneg _ (by have := p2_pos s; omega)]
theorem shr8' (x : Int) : Int.fdiv x (2 ^ min (Int.toNat 8) IntKind.u32.bits) = x / 256 := shrR32 (s := 8) (by decide)
theorem shr16' (x : Int) : Int.fdiv x (2 ^ min (Int.toNat 16) IntKind.u32.bits) = x / 65536 := shrR32 (s := 16) (by decide)
theorem shr31' (x : Int) : Int.fdiv x (2 ^ min (Int.toNat 31) IntKind.u32.bits) = x / 2147483648 := shrR32 (s := 31) (by decide)
theorem len32 (k : Nat) {x : Int} (h0 : 0 <= x) (h1 : x < 4294967296) : bits_Len32 k x = some (bl x, ()) := by
 have b8 : ∀ y : Int, 0 <= y -> y < 256 -> 0 <= bl y /\ bl y <= 8 := fun y _ hy => ⟨bl_nonneg y, bl_le (m := 8) hy⟩
 simp only [bits_Len32, shr8', shr16', cond_eq_ite, decide_eq_true_eq]
 have look : ∀ (z c : Int) (j : Nat), 0 <= z -> z < 256 -> c = j -> j <= 56 -> x / 2 ^ j = z -> (j = 0 \/ 0 < z) ->
   (if 0 <= IntKind.u8.wrap z then (bytes0[Int.toNat (IntKind.u8.wrap z)]?).bind fun y1 => (some (IntKind.i64.wrap (c + IntKind.i64.wrap (y1.toNat : Int)), ()) : Option (HL [(.int .i64)])) else none) = some (bl x, ()) := by
  intro z c j z0 z1 hc hj hx hp
  obtain ⟨y, hy, e⟩ := tab_get z0 z1
  have hb := b8 z z0 z1
  rw [u8w z0 z1, if_pos z0, hy, Option.bind_some, e, w64 (x := bl z) (by omega) (by omega), w64 (by omega) (by omega), hc]
  have ee : (j : Int) + bl z = bl x := by
   rcases hp with rfl | hp
   ·rw [Int.pow_zero, Int.ediv_one] at hx; rw [hx]; simp
   ·rw [bl_shift (x := x) j (by rw [hx]; exact hp), hx]
  rw [ee]
 by_cases c2 : x >= 65536
 ·rw [if_pos c2]
  by_cases c3 : x / 65536 >= 256
  ·rw [if_pos c3]; exact look _ _ 24 (by omega) (by omega) (by decide) (by omega) (by omega) (.inr (by omega))
  ·rw [if_neg c3]; exact look _ _ 16 (by omega) (by omega) (by decide) (by omega) (by omega) (.inr (by omega))
 ·rw [if_neg c2]
  by_cases c3 : x >= 256
  ·rw [if_pos c3]; exact look _ _ 8 (by omega) (by omega) (by decide) (by omega) (by omega) (.inr (by omega))
  ·rw [if_neg c3]; exact look _ _ 0 (by omega) (by omega) (by decide) (by omega) (by omega) (.inl rfl)
theorem len_ev (l : List Int) (h : U l) (hb : l.length <= 1073741824) : ∃ K, ∀ k, K <= k -> nat_Len k l = some (bl (val l), ()) := by
 obtain ⟨K, hK⟩ := cut_ev l h hb
 have hn := val_nonneg h
 have hl := lim_len hn l.length (val_lt h)
 by_cases h0 : val l = 0
 ·refine ⟨K, fun k hk => ?_⟩
  simp only [nat_Len]
  rw [hK k hk, Option.bind_some, h0, show lim 0 = [] from limN_zero]
  rfl
 ·have hpos : 0 < val l := by omega
  have h1 : 0 < (lim (val l)).length := by
   by_cases hq : (lim (val l)).length = 0
   ·exact absurd ((lim_nil_iff hn).1 hq) h0
   ·omega
  have hu := U_getD (U_lim hn) ((lim (val l)).length - 1)
  have e1 := val_top hpos
  have hlast := lim_last hpos
  have e2 := bl_shift (x := val l) (32 * ((lim (val l)).length - 1)) (by rw [<- p2_limb, e1]; omega)
  rw [<- p2_limb, e1] at e2
  have e3 := bl_le (n := (lim (val l)).getD ((lim (val l)).length - 1) 0) (m := 32) hu.2
  have e4 := bl_nonneg ((lim (val l)).getD ((lim (val l)).length - 1) 0)
  refine ⟨K, fun k hk => ?_⟩
  have w1 : IntKind.i64.wrap (((lim (val l)).length : Int) - 1) = (((lim (val l)).length - 1 : Nat) : Int) := by rw [w64 (by omega) (by omega)]; omega
  have w2 : IntKind.i64.wrap (32 * (((lim (val l)).length - 1 : Nat) : Int)) = 32 * (((lim (val l)).length - 1 : Nat) : Int) := w64 (by omega) (by omega)
  have e5 : ¬ ((lim (val l)).length : Int) = 0 := by omega
  simp only [nat_Len]
  rw [hK k (by omega), Option.bind_some, beq_f e5, cond_false, w1, if_pos (Int.natCast_nonneg _), Int.toNat_natCast, gd (show (lim (val l)).length - 1 < (lim (val l)).length by omega), Option.bind_some, len32 k hu.1 hu.2, Option.bind_some, w2, w64 (by omega) (by omega), e2]
  rfl
theorem cmp_l0 (k : Nat) (a b : List Int) (ha : U a) (hb : U b) (hl : a.length = b.length) (hc : a.length <= 1073741824) : ∀ (d m i : Nat), i + d = a.length -> d < m -> a.drop d = b.drop d ->
  nat_Cmp_l0 k m ((a, b, (a.length : Int), (i : Int), ()), ()) = some (if sgz (val a - val b) = 0 then Sum.inr (Sum.inl ((), ())) else Sum.inl ((sgz (val a - val b), ()), ())) := by
 intro d
 induction d with
 | zero =>
  intro m i hi hm he
  obtain ⟨m, rfl⟩ : ∃ i, m = i + 1 := ⟨m - 1, by omega⟩
  have e : ¬ (i : Int) < (a.length : Int) := by omega
  rw [List.drop_zero, List.drop_zero] at he
  simp only [nat_Cmp_l0, cond_f e]
  rw [he, Int.sub_self, sgz_zero, if_pos rfl]
 | succ n ih =>
  intro m i hi hm he
  obtain ⟨m, rfl⟩ : ∃ i, m = i + 1 := ⟨m - 1, by omega⟩
  have e : (i : Int) < (a.length : Int) := by omega
  have w : IntKind.i64.wrap (IntKind.i64.wrap ((a.length : Int) - 1) - (i : Int)) = (n : Int) := by rw [w64 (x := (a.length : Int) - 1) (by omega) (by omega), w64 (by omega) (by omega)]; omega
  simp only [nat_Cmp_l0, cond_t e, w, if_pos (Int.natCast_nonneg n), Int.toNat_natCast, gd (show n < a.length by omega), gd (show n < b.length by omega), Option.bind_some, wsu (show i < 4611686018427387904 by omega)]
  rcases Int.lt_trichotomy (a.getD n 0) (b.getD n 0) with hlt | heq | hgt
  ·have := val_lt_top ha hb (k := n) (by omega) (by omega) he hlt
   rw [cond_t hlt, sgz_neg (by omega), if_neg (by decide)]
  ·have h1 : ¬ a.getD n 0 < b.getD n 0 := by omega
   have h2 : ¬ a.getD n 0 > b.getD n 0 := by omega
   rw [cond_f h1, cond_f h2]
   exact ih m (i + 1) (by omega) (by omega) (by rw [drop_eq (by omega), drop_eq (l := b) (by omega), heq, he])
  ·have := val_lt_top hb ha (k := n) (by omega) (by omega) he.symm hgt
   have h1 : ¬ a.getD n 0 < b.getD n 0 := by omega
   rw [cond_f h1, cond_t hgt, sgz_pos (by omega), if_neg (by decide)]
theorem cmp_ev (a b : List Int) (ha : U a) (hb : U b) (hla : a.length <= 1073741824) (hlb : b.length <= 1073741824) : ∃ K, ∀ k, K <= k -> nat_Cmp k a b = some (sgz (val a - val b), ()) := by
 obtain ⟨K1, h1⟩ := cut_ev a ha hla
 obtain ⟨K2, h2⟩ := cut_ev b hb hlb
 have na := val_nonneg ha
 have nb := val_nonneg hb
 have la := lim_len na a.length (val_lt ha)
 have lb := lim_len nb b.length (val_lt hb)
 refine ⟨K1 + K2 + a.length + 2, fun k hk => ?_⟩
 rcases Nat.lt_trichotomy (lim (val a)).length (lim (val b)).length with hlt | heq | hgt
 ·have := lim_len_lt na hlt
  have e2 : ((lim (val a)).length : Int) < ((lim (val b)).length : Int) := by omega
  simp only [nat_Cmp, h1 k (by omega), h2 k (by omega), Option.bind_some, cond_t e2]
  rw [sgz_neg (by omega)]
 ·have e1 : ¬ ((lim (val a)).length : Int) < ((lim (val b)).length : Int) := by omega
  have e2 : ¬ ((lim (val a)).length : Int) > ((lim (val b)).length : Int) := by omega
  have h3 := cmp_l0 k (lim (val a)) (lim (val b)) (U_lim na) (U_lim nb) heq (by omega) (lim (val a)).length k 0 (by omega) (by omega) (by rw [List.drop_length, heq, List.drop_length])
  rw [val_lim na, val_lim nb, show ((0 : Nat) : Int) = 0 from rfl] at h3
  simp only [nat_Cmp, h1 k (by omega), h2 k (by omega), Option.bind_some, cond_f e1, cond_f e2]
  rw [h3]
  by_cases hs : sgz (val a - val b) = 0
  ·rw [if_pos hs, hs]; rfl
  ·rw [if_neg hs]; rfl
 ·have := lim_len_lt nb hgt
  have e1 : ¬ ((lim (val a)).length : Int) < ((lim (val b)).length : Int) := by omega
  have e2 : ((lim (val a)).length : Int) > ((lim (val b)).length : Int) := by omega
  simp only [nat_Cmp, h1 k (by omega), h2 k (by omega), Option.bind_some, cond_f e1, cond_t e2]
  rw [sgz_pos (by omega)]
theorem add32 (k : Nat) {x y c : Int} (hx : 0 <= x /\ x < 4294967296) (hy : 0 <= y /\ y < 4294967296) (hc : 0 <= c /\ c <= 1) : bits_Add32 k x y c = some ((x + y + c) % 4294967296, (x + y + c) / 4294967296, ()) := by
 simp only [bits_Add32, shr32]
 rw [u64w (x := x) (by omega) (by omega), u64w (x := y) (by omega) (by omega), u64w (x := c) (by omega) (by omega), u64w (x := x + y) (by omega) (by omega), u64w (x := x + y + c) (by omega) (by omega), u32w (x := (x + y + c) / 4294967296) (by omega) (by omega)]
 have e : IntKind.u32.wrap (x + y + c) = (x + y + c) % 4294967296 := by rw [IntKind.wrap_u32]
 rw [e]
theorem add_l0 (k : Nat) (a b : List Int) (ha : U a) (hb : U b) (hl : b.length <= a.length) (hc : a.length <= 1073741823) :
  ∀ (d m i : Nat) (o : List Int) (c : Int), d < m -> i <= a.length -> a.length - i = d -> U o -> o.length = a.length + 1 -> 0 <= c /\ c <= 1 -> val (o.take i) + pw i * c = val (a.take i) + val (b.take i) ->
   ∃ o' c', U o' /\ o'.length = a.length + 1 /\ 0 <= c' /\ c' <= 1 /\ val (o'.take a.length) + pw a.length * c' = val a + val b /\ nat_Add_l0 k m ((a, b, (), c, (a.length : Int), (i : Int), ()), (o, ())) = some (Sum.inl ((a, (), c', ()), (o', ()))) := by
 intro d
 induction d with
 | zero =>
  intro m i o c hm hi hd ho hol hcc he
  obtain ⟨m, rfl⟩ : ∃ i, m = i + 1 := ⟨m - 1, by omega⟩
  obtain rfl : i = a.length := by omega
  have e : ¬ (a.length : Int) < (a.length : Int) := by omega
  refine ⟨o, c, ho, hol, hcc.1, hcc.2, by rw [he, List.take_length, take_out b _ hl], ?_⟩
  simp only [nat_Add_l0, cond_f e]
 | succ d ih =>
  intro m i o c hm hi hd ho hol hcc he
  obtain ⟨m, rfl⟩ : ∃ i, m = i + 1 := ⟨m - 1, by omega⟩
  have hai := U_getD ha i
  have hbi := U_getD hb i
  have key : val ((o.set i ((a.getD i 0 + b.getD i 0 + c) % 4294967296)).take (i + 1)) + pw (i + 1) * ((a.getD i 0 + b.getD i 0 + c) / 4294967296) = val (a.take (i + 1)) + val (b.take (i + 1)) := by
   rw [val_set_take (by omega), val_take_succ', val_take_succ', pw_succ]
   exact step_add (Int.emod_add_mul_ediv (a.getD i 0 + b.getD i 0 + c) 4294967296) he
  obtain ⟨o', c', q1, q2, q3, q4, q5, q6⟩ := ih m (i + 1) (o.set i ((a.getD i 0 + b.getD i 0 + c) % 4294967296)) ((a.getD i 0 + b.getD i 0 + c) / 4294967296) (by omega) (by omega) (by omega) (U_set ho i (by omega) (by omega)) (by simpa using hol) (by omega) key
  refine ⟨o', c', q1, q2, q3, q4, q5, ?_⟩
  have e : (i : Int) < (a.length : Int) := by omega
  have h5 := add32 k hai hbi hcc
  simp only [nat_Add_l0, cond_t e, if_pos (Int.natCast_nonneg i), Int.toNat_natCast, gd (show i < a.length by omega), gd (show i < o.length by omega), Option.bind_some, wsu (show i < 4611686018427387904 by omega)]
  by_cases hib : i < b.length
  ·have e2 : (i : Int) < (b.length : Int) := by omega
   rw [cond_t e2, gd hib, Option.bind_some, h5]
   exact q6
  ·have e2 : ¬ (i : Int) < (b.length : Int) := by omega
   rw [getD_out b i (by omega)] at h5 q6
   rw [cond_f e2, h5]
   exact q6
theorem add_ev (a b : List Int) (ha : U a) (hb : U b) (hla : a.length <= 1073741823) (hlb : b.length <= 1073741823) : ∃ K, ∀ k, K <= k -> nat_Add k a b = some (lim (val a + val b), ()) := by
 have fin : ∀ (a b : List Int), U a -> U b -> b.length <= a.length -> a.length <= 1073741823 -> ∃ K, ∀ k, K <= k ->
   ((nat_Add_l0 k k ((a, b, (), 0, (a.length : Int), 0, ()), (List.replicate (a.length + 1) (0 : Int), ()))).bind fun q11 =>
    Sum.elim (fun z16 =>
     if 0 <= (z16.1.1.length : Int) then (z16.2.1[Int.toNat (z16.1.1.length : Int)]?).bind fun _ =>
     (z16.2.1[(Int.toNat (z16.1.1.length : Int))]?).bind fun y18 =>
     (nat_cut k (z16.2.1.set (Int.toNat (z16.1.1.length : Int)) z16.1.2.2.1)).bind fun r19 =>
     some (r19.1, ())
     else none)
    (fun q11' =>
     none) q11) = (some (lim (val a + val b), ()) : Option (HL [(.list (.int .u32))])) := by
  intro a b ha hb hl hc
  refine ⟨a.length + 3, fun k hk => ?_⟩
  obtain ⟨o, c, q1, q2, q3, q4, q5, q6⟩ := add_l0 k a b ha hb hl hc _ k 0 (List.replicate (a.length + 1) 0) 0 (by omega) (by omega) rfl (U_replicate _) (by simp) (by omega) (by simp)
  rw [show ((0 : Nat) : Int) = 0 from rfl] at q6
  erw [q6]
  have hu := U_set q1 a.length (x := c) (by omega) (by omega)
  have hv : val (o.set a.length c) = val a + val b := by
   rw [val_full (n := a.length) (by simpa using q2), take_set, getD_set_self (by omega), q5]
  simp only [Option.bind_some, Sum.elim_inl, if_pos (Int.natCast_nonneg a.length), Int.toNat_natCast, gd (show a.length < o.length by omega)]
  rw [cut_eq _ hu (by simp; omega) k (by simp; omega), hv]
  rfl
 by_cases hc : a.length < b.length
 ·obtain ⟨K, hK⟩ := fin b a hb ha (by omega) hlb
  refine ⟨K, fun k hk => ?_⟩
  have e : (a.length : Int) < (b.length : Int) := by omega
  have h := hK k hk
  rw [Int.add_comm] at h
  simp only [nat_Add, cond_t e, wsu (show b.length < 4611686018427387904 by omega)]
  rw [if_pos ⟨trivial, by omega, by rw [Int.toNat_natCast]; omega⟩]
  simp only [Int.toNat_natCast]
  exact h
 ·obtain ⟨K, hK⟩ := fin a b ha hb (by omega) hla
  refine ⟨K, fun k hk => ?_⟩
  have e : ¬ (a.length : Int) < (b.length : Int) := by omega
  have h := hK k hk
  simp only [nat_Add, cond_f e, wsu (show a.length < 4611686018427387904 by omega)]
  rw [if_pos ⟨trivial, by omega, by rw [Int.toNat_natCast]; omega⟩]
  simp only [Int.toNat_natCast]
  exact h
theorem bits_xor_gen (k : IntKind) (j : Nat) (hj : j <= k.bits) (hk : ∀ n : Int, 0 <= n -> n < 2 ^ j -> k.wrap n = n) (a b : Nat) (ha : a < 2 ^ j) (hb : b < 2 ^ j) :
  Go.bits .xor k a b = ((a ^^^ b : Nat) : Int) := by
 have hp : 2 ^ j <= 2 ^ k.bits := Nat.pow_le_pow_right (by decide) hj
 have ha' : a % 2 ^ k.bits = a := Nat.mod_eq_of_lt (Nat.lt_of_lt_of_le ha hp)
 have hb' : b % 2 ^ k.bits = b := Nat.mod_eq_of_lt (Nat.lt_of_lt_of_le hb hp)
 have cast : ∀ n : Nat, n < 2 ^ j -> ((n : Nat) : Int) < 2 ^ j := fun n h => by exact_mod_cast h
 simp only [Go.bits, BitVec.ofInt_natCast, BitVec.toNat_xor, BitVec.toNat_ofNat, ha', hb']
 exact hk _ (Int.natCast_nonneg _) (cast _ (Nat.xor_lt_two_pow ha hb))
theorem bits_xor_nat (a b : Nat) (ha : a < 4294967296) (hb : b < 4294967296) : Go.bits .xor .u32 a b = ((a ^^^ b : Nat) : Int) := bits_xor_gen .u32 32 (by decide) wraps_u32 a b ha hb
theorem topb (n : Nat) (h : n < 4294967296) : n / 2147483648 = if n.testBit 31 = true then 1 else 0 := by
 rw [Nat.testBit_eq_decide_div_mod_eq]
 by_cases hq : n / 2 ^ 31 % 2 = 1
 ·rw [decide_eq_true hq, if_pos rfl]; omega
 ·rw [decide_eq_false hq, if_neg (by simp)]; omega
theorem topd (n : Nat) (h : n < 4294967296) : n.testBit 31 = decide (2147483648 <= n) := by
 rw [Nat.testBit_eq_decide_div_mod_eq]
 congr 1
 apply propext
 omega
theorem step_mul {V P Q x y old c r q W S : Int} (e : r + 4294967296 * q = x * y + old + c) : V + P * Q * (r - old) + 4294967296 * (P * Q) * q + P * x * (W - (S + Q * y)) = V + P * Q * c + P * x * (W - S) := by
 have h : P * Q * (r + 4294967296 * q) = P * Q * (x * y + old + c) := by rw [e]
 grind
theorem or_low {i : Nat} {s m : Int} (hi : i <= 32) (h0 : 0 <= s) (h1 : s < 2 ^ i) (hm0 : 0 <= m) (hm1 : m < 4294967296) (hm : m % 2 ^ i = 0) : Go.bits .or .u32 s m = s + m := by
 have h2 : s < 2 ^ 32 := Int.lt_of_lt_of_le h1 (p2_mono hi)
 rw [bits_or_comm, bits_join .u32 32 (by decide) wraps_u32 i m s hm0 hm hm1 h0 h1 h2, Int.add_comm]
theorem or_zero {m : Int} (hm0 : 0 <= m) (hm1 : m < 4294967296) : Go.bits .or .u32 0 m = m := by
 have := bits_join .u32 32 (by decide) wraps_u32 32 0 m (by decide) (by decide) (by decide) hm0 hm1 hm1
 omega
theorem mod_mod_p2 {x : Int} {s : Nat} (hs : s <= 32) : (x * 2 ^ s) % 4294967296 % 2 ^ s = 0 := by
 have e : (4294967296 : Int) = 2 ^ s * 2 ^ (32 - s) := by rw [<- p2_add, show s + (32 - s) = 32 by omega]; rfl
 rw [e, Int.emod_emod_of_dvd _ (Int.dvd_mul_right _ _), Int.mul_emod_left]
theorem div_p2_lt {x : Int} {s : Nat} (hs : s <= 32) (h0 : 0 <= x) (h1 : x < 4294967296) : x * 2 ^ s / 4294967296 < 2 ^ s := by
 have hp := p2_pos s
 rw [Int.ediv_lt_iff_lt_mul (by decide), Int.mul_comm]
 exact Int.mul_lt_mul_of_pos_left h1 hp
theorem step_shl {V P y q r a A T : Int} (e : r + 4294967296 * q = y) (hy : y = a * T) {L i : Int} (hP : P = L * i) (hV : V = L * T * A) : V + P * r + 4294967296 * P * q = L * T * (A + i * a) := by
 have h : P * (r + 4294967296 * q) = P * y := by rw [e]
 subst hP hy hV
 grind
theorem digit {x0 x1 R : Int} {s : Nat} (hs : s <= 32) : (x0 + 4294967296 * (x1 + 4294967296 * R)) / 2 ^ s % 4294967296 = (x0 + x1 * 4294967296) / 2 ^ s % 4294967296 := by
 have e : (4294967296 : Int) = 2 ^ s * 2 ^ (32 - s) := by rw [<- p2_add, show s + (32 - s) = 32 by omega]; rfl
 have hp := p2_pos s
 have e2 : x0 + 4294967296 * (x1 + 4294967296 * R) = (x0 + x1 * 4294967296) + 2 ^ s * (4294967296 * (2 ^ (32 - s) * R)) := by
  have : 4294967296 * (4294967296 * R) = 4294967296 * (2 ^ s * 2 ^ (32 - s) * R) := by rw [<- e]
  grind
 rw [e2, Int.add_mul_ediv_left _ _ (by omega), Int.add_mul_emod_self_left]
theorem emod_succ (X P : Int) (hP : 0 < P) : X % (4294967296 * P) = X % P + P * (X / P % 4294967296) := by
 have e1 := Int.mul_ediv_add_emod X P
 have e2 := Int.mul_ediv_add_emod (X / P) 4294967296
 have b1 := Int.emod_nonneg X (b := P) (by omega)
 have b2 := Int.emod_lt_of_pos X hP
 have b3 : 0 <= X / P % 4294967296 := by omega
 have b4 : X / P % 4294967296 <= 4294967295 := by omega
 have e3 : X = (X % P + P * (X / P % 4294967296)) + 4294967296 * P * (X / P / 4294967296) := by
  have : P * (4294967296 * (X / P / 4294967296) + X / P % 4294967296) = P * (X / P) := by rw [e2]
  grind
 have b5 := Int.mul_nonneg (show 0 <= P by omega) b3
 have b6 := Int.mul_le_mul_of_nonneg_left b4 (show 0 <= P by omega)
 conv => lhs; rw [e3]
 rw [Int.add_mul_emod_self_left, Int.emod_eq_of_lt (by omega) (by omega)]
theorem getD_drop (l : List Int) (L i : Nat) : (l.drop L).getD i 0 = l.getD (L + i) 0 := by
 rw [List.getD_eq_getElem?_getD, List.getElem?_drop, List.getD_eq_getElem?_getD]
theorem shr_digit {d : List Int} (hd : U d) {i : Nat} (hi : i <= d.length) {s : Nat} (hs : s <= 32) : val d / 2 ^ s / pw i % 4294967296 = (d.getD i 0 + d.getD (i + 1) 0 * 4294967296) / 2 ^ s % 4294967296 := by
 rw [Int.ediv_ediv_of_nonneg (show (0 : Int) <= 2 ^ s by have := p2_pos s; omega), Int.mul_comm, <- Int.ediv_ediv_of_nonneg (by have := pw_pos i; omega), val_div hd hi, val_drop', val_drop', digit hs]
theorem xorR (a b : Int) : IntKind.u32.wrap (BitVec.toNat (BitVec.ofInt IntKind.u32.bits a ^^^ BitVec.ofInt IntKind.u32.bits b)) = Go.bits .xor .u32 a b := rfl
theorem andR32 (a b : Int) : IntKind.u32.wrap (BitVec.toNat (BitVec.ofInt IntKind.u32.bits a &&& BitVec.ofInt IntKind.u32.bits b)) = Go.bits .and .u32 a b := rfl
theorem orR32 (a b : Int) : IntKind.u32.wrap (BitVec.toNat (BitVec.ofInt IntKind.u32.bits a ||| BitVec.ofInt IntKind.u32.bits b)) = Go.bits .or .u32 a b := rfl
theorem sub32 (k : Nat) {x y c : Int} (hx : 0 <= x /\ x < 4294967296) (hy : 0 <= y /\ y < 4294967296) (hc : 0 <= c /\ c <= 1) : bits_Sub32 k x y c = some ((x - y - c) % 4294967296, (if x - y - c < 0 then 1 else 0), ()) := by
 obtain ⟨X, rfl⟩ : ∃ n : Nat, x = n := ⟨x.toNat, by omega⟩
 obtain ⟨Y, rfl⟩ : ∃ n : Nat, y = n := ⟨y.toNat, by omega⟩
 obtain ⟨D, hD⟩ : ∃ n : Nat, (((X : Int) - Y) % 4294967296 - c) % 4294967296 = n := ⟨((((X : Int) - Y) % 4294967296 - c) % 4294967296).toNat, by omega⟩
 have hX : X < 4294967296 := by omega
 have hY : Y < 4294967296 := by omega
 have hDl : D < 4294967296 := by omega
 have hz := Nat.xor_lt_two_pow (n := 32) hX hY
 have hn : ∀ Z : Nat, Z < 4294967296 -> (4294967295 ^^^ Z : Nat) < 4294967296 := fun Z h => Nat.xor_lt_two_pow (n := 32) (by decide) h
 have an := fun (p q : Nat) (hp : p < 4294967296) (hq : q < 4294967296) => bits_nat .u32 32 (by decide) wraps_u32 p q hp hq
 have al : ∀ p q : Nat, p < 4294967296 -> q < 4294967296 -> p &&& q < 4294967296 := fun p q _ hq => Nat.and_lt_two_pow (n := 32) p hq
 have ol : ∀ p q : Nat, p < 4294967296 -> q < 4294967296 -> p ||| q < 4294967296 := fun p q hp hq => Nat.or_lt_two_pow (n := 32) hp hq
 have c32 : (if IntKind.u32.signed then -1 else IntKind.u32.max) = ((4294967295 : Nat) : Int) := by decide
 have wD : IntKind.u32.wrap (IntKind.u32.wrap ((X : Int) - Y) - c) = (D : Int) := by rw [IntKind.wrap_u32, IntKind.wrap_u32, hD]
 simp only [bits_Sub32, xorR, andR32, orR32, shr31', c32, wD]
 rw [bits_xor_nat _ _ (by decide) hX, bits_xor_nat X Y hX hY, bits_xor_nat _ _ (by decide) hz, (an _ _ (hn _ hX) hY).1, (an _ _ (hn _ hz) hDl).1, (an _ _ (al _ _ (hn _ hX) hY) (al _ _ (hn _ hz) hDl)).2]
 have e := topb _ (ol _ _ (al _ _ (hn _ hX) hY) (al _ _ (hn _ hz) hDl))
 simp only [Nat.testBit_or, Nat.testBit_and, Nat.testBit_xor, topd _ hX, topd _ hY, topd _ hDl, show Nat.testBit 4294967295 31 = true by decide] at e
 have e2 : ∀ n : Nat, ((n : Int) / 2147483648) = ((n / 2147483648 : Nat) : Int) := fun n => by omega
 rw [e2, e]
 have e3 : (X - Y - c) % 4294967296 = (D : Int) := by omega
 rw [e3]
 have e4 : (((if ((true ^^ decide (2147483648 <= X)) && decide (2147483648 <= Y) || (true ^^ (decide (2147483648 <= X) ^^ decide (2147483648 <= Y))) && decide (2147483648 <= D)) = true then 1 else 0 : Nat)) : Int) = if (X : Int) - Y - c < 0 then 1 else 0 := by
  by_cases h1 : 2147483648 <= X <;> by_cases h2 : 2147483648 <= Y <;> by_cases h3 : 2147483648 <= D <;> simp only [h1, h2, h3, decide_true, decide_false, Bool.xor_true, Bool.xor_false, Bool.not_true, Bool.not_false, Bool.true_and, Bool.false_and, Bool.and_true, Bool.and_false, Bool.or_true, Bool.or_false, Bool.true_or, Bool.false_or, if_true, Bool.false_eq_true, if_false] <;> split <;> omega
 rw [e4]
theorem wad {i j : Nat} (h : i + j < 4611686018427387904) : IntKind.i64.wrap ((i : Int) + (j : Int)) = ((i + j : Nat) : Int) := by rw [w64 (by omega) (by omega)]; omega
theorem mul_l1 (k : Nat) (a b : List Int) (hb : U b) (i : Nat) (x : Int) (hx : 0 <= x /\ x < 4294967296) (hi : i < 1073741824) (hlb : b.length <= 1073741824) :
  ∀ (d m j : Nat) (o : List Int) (c : Int), d < m -> j <= b.length -> b.length - j = d -> U o -> i + b.length < o.length -> 0 <= c /\ c < 4294967296 -> o.getD (i + b.length) 0 = 0 ->
   ∃ o' c', U o' /\ o'.length = o.length /\ 0 <= c' /\ c' < 4294967296 /\ (∀ q, i + b.length <= q -> o'.getD q 0 = o.getD q 0) /\ val o' + pw (i + b.length) * c' = val o + pw (i + j) * c + pw i * x * (val b - val (b.take j)) /\
    nat_Mul_l1 k m ((b, (), (i : Int), x, c, a, (a.length : Int), (i : Int), b, (b.length : Int), (j : Int), ()), (o, ())) = some (Sum.inl ((b, (), (i : Int), c', a, (a.length : Int), (i : Int), ()), (o', ()))) := by
 intro d
 induction d with
 | zero =>
  intro m j o c hm hj hd ho hol hc hz
  obtain ⟨m, rfl⟩ : ∃ i, m = i + 1 := ⟨m - 1, by omega⟩
  obtain rfl : j = b.length := by omega
  have e : ¬ (b.length : Int) < (b.length : Int) := by omega
  refine ⟨o, c, ho, rfl, hc.1, hc.2, fun q _ => rfl, by rw [List.take_length]; grind, ?_⟩
  simp only [nat_Mul_l1, cond_f e]
 | succ d ih =>
  intro m j o c hm hj hd ho hol hc hz
  obtain ⟨m, rfl⟩ : ∃ i, m = i + 1 := ⟨m - 1, by omega⟩
  have hbj := U_getD hb j
  have hoj := U_getD ho (i + j)
  have hmb := mul_bound hx hbj
  obtain ⟨n, hn⟩ : ∃ n, n = x * b.getD j 0 + o.getD (i + j) 0 + c := ⟨_, rfl⟩
  obtain ⟨o', c', h1, h2, q1, q2, h3, h4, h5⟩ := ih m (j + 1) (o.set (i + j) (n % 4294967296)) (n / 4294967296) (by omega) (by omega) (by omega) (U_set ho _ (by omega) (by omega)) (by simpa using hol) (by omega) (by rw [getD_set_ne (by omega)]; exact hz)
  refine ⟨o', c', h1, by simpa using h2, q1, q2, fun q hq => (h3 q hq).trans (getD_set_ne (by omega) _), ?_, ?_⟩
  ·rw [h4, val_set (by omega), val_take_succ', show i + (j + 1) = (i + j) + 1 by omega, pw_succ, pw_add]
   exact step_mul (by rw [<- hn]; exact Int.emod_add_mul_ediv n 4294967296)
  ·have e : (j : Int) < (b.length : Int) := by omega
   have w0 : IntKind.u64.wrap x = x := u64w hx.1 (by omega)
   have w1 : IntKind.u64.wrap (b.getD j 0) = b.getD j 0 := u64w hbj.1 (by omega)
   have w2 : IntKind.u64.wrap (o.getD (i + j) 0) = o.getD (i + j) 0 := u64w hoj.1 (by omega)
   have w3 : IntKind.u64.wrap (x * b.getD j 0) = x * b.getD j 0 := u64w hmb.1 (by omega)
   have w4 : IntKind.u64.wrap (x * b.getD j 0 + o.getD (i + j) 0) = x * b.getD j 0 + o.getD (i + j) 0 := u64w (by omega) (by omega)
   have w5 : IntKind.u64.wrap (x * b.getD j 0 + o.getD (i + j) 0 + c) = n := by rw [<- hn]; exact u64w (by omega) (by omega)
   have w6 : IntKind.u32.wrap n = n % 4294967296 := by rw [IntKind.wrap_u32]
   simp only [nat_Mul_l1, cond_t e, if_pos (Int.natCast_nonneg j), if_pos (Int.natCast_nonneg (i + j)), Int.toNat_natCast, gd (show j < b.length by omega), wad (show i + j < 4611686018427387904 by omega), gd (show i + j < o.length by omega), Option.bind_some, w0, w1, w2, w3, w4, w5, w6, shr32, wsu (show j < 4611686018427387904 by omega)]
   exact h5
theorem mul_l0 (a b : List Int) (ha : U a) (hb : U b) (hl : a.length + b.length <= 1073741824) (k : Nat) (hk : b.length + 2 <= k) :
  ∀ (d m i : Nat) (o : List Int), d < m -> i <= a.length -> a.length - i = d -> U o -> o.length = a.length + b.length -> (∀ q, i + b.length <= q -> o.getD q 0 = 0) -> val o = val (a.take i) * val b ->
   ∃ o', U o' /\ o'.length = a.length + b.length /\ val o' = val a * val b /\ nat_Mul_l0 k m ((b, (), a, (a.length : Int), (i : Int), ()), (o, ())) = some (Sum.inl (((), ()), (o', ()))) := by
 intro d
 induction d with
 | zero =>
  intro m i o hm hi hd ho hol hz hv
  obtain ⟨m, rfl⟩ : ∃ i, m = i + 1 := ⟨m - 1, by omega⟩
  obtain rfl : i = a.length := by omega
  have e : ¬ (a.length : Int) < (a.length : Int) := by omega
  refine ⟨o, ho, hol, by rw [hv, List.take_length], ?_⟩
  simp only [nat_Mul_l0, cond_f e]
 | succ d ih =>
  intro m i o hm hi hd ho hol hz hv
  obtain ⟨m, rfl⟩ : ∃ i, m = i + 1 := ⟨m - 1, by omega⟩
  obtain ⟨o1, c1, h1, h2, q1, q2, h3, h4, h5⟩ := mul_l1 k a b hb i (a.getD i 0) (U_getD ha i) (by omega) (by omega) _ k 0 o 0 (by omega) (by omega) rfl ho (by omega) (by omega) (hz _ (by omega))
  rw [List.take_zero, val_nil] at h4
  have hz1 : o1.getD (i + b.length) 0 = 0 := by rw [h3 _ (by omega)]; exact hz _ (by omega)
  have hv' : val (o1.set (i + b.length) c1) = val (a.take (i + 1)) * val b := by
   rw [val_set (by omega), hz1, Int.sub_zero, h4, hv, val_take_succ']
   grind
  obtain ⟨o', r1, r2, r3, r4⟩ := ih m (i + 1) (o1.set (i + b.length) c1) (by omega) (by omega) (by omega) (U_set h1 _ q1 q2) (by simp; omega) (fun q hq => by rw [getD_set_ne (by omega), h3 q (by omega)]; exact hz q (by omega)) hv'
  refine ⟨o', r1, r2, r3, ?_⟩
  have e : (i : Int) < (a.length : Int) := by omega
  simp only [nat_Mul_l0, cond_t e, if_pos (Int.natCast_nonneg i), Int.toNat_natCast, gd (show i < a.length by omega), Option.bind_some]
  rw [show ((0 : Nat) : Int) = 0 from rfl] at h5
  erw [h5]
  simp only [Option.bind_some, Sum.elim_inl, wad (show i + b.length < 4611686018427387904 by omega), if_pos (Int.natCast_nonneg (i + b.length)), Int.toNat_natCast, gd (show i + b.length < o1.length by omega), u32w q1 q2, wsu (show i < 4611686018427387904 by omega)]
  exact r4
theorem mul_ev (a b : List Int) (ha : U a) (hb : U b) (hl : a.length + b.length <= 1073741824) : ∃ K, ∀ k, K <= k -> nat_Mul k a b = some (lim (val a * val b), ()) := by
 refine ⟨a.length + b.length + 3, fun k hk => ?_⟩
 obtain ⟨o, h1, h2, h3, h4⟩ := mul_l0 a b ha hb hl k (by omega) _ k 0 (List.replicate (a.length + b.length) 0) (by omega) (by omega) rfl (U_replicate _) (by simp) (fun q _ => by
  rw [List.getD_eq_getElem?_getD, List.getElem?_replicate]
  split <;> rfl) (by rw [val_replicate, List.take_zero, val_nil, Int.zero_mul])
 rw [show ((0 : Nat) : Int) = 0 from rfl] at h4
 simp only [nat_Mul, wad (show a.length + b.length < 4611686018427387904 by omega)]
 rw [if_pos ⟨trivial, by omega, by rw [Int.toNat_natCast]; omega⟩, Int.toNat_natCast]
 erw [h4]
 simp only [Option.bind_some, Sum.elim_inl]
 rw [cut_eq o h1 (by omega) k (by omega), h3]
 rfl
theorem mulp_bound {x : Int} {s : Nat} (h0 : 0 <= x) (hs : s <= 32) (h1 : x < 4294967296) : 0 <= x * 2 ^ s /\ x * 2 ^ s < 18446744073709551616 := by
 have hp := p2_pos s
 have hm := p2_mono hs
 have e32 : (2 : Int) ^ 32 = 4294967296 := rfl
 refine ⟨Int.mul_nonneg h0 (by omega), ?_⟩
 have q1 := Int.mul_le_mul_of_nonneg_right (show x <= 4294967295 by omega) (show (0 : Int) <= 2 ^ s by omega)
 omega
theorem shl_l0 (a : List Int) (ha : U a) (L s k : Nat) (hs : s < 32) (hl : a.length + L + 1 <= 1073741824) :
  ∀ (d m i : Nat) (o : List Int), d < m -> i <= a.length -> a.length - i = d -> U o -> o.length = a.length + L + 1 -> o.getD (i + L) 0 < 2 ^ s -> (∀ q, i + L < q -> o.getD q 0 = 0) -> val o = pw L * 2 ^ s * val (a.take i) ->
   ∃ o', U o' /\ o'.length = a.length + L + 1 /\ val o' = val a * 2 ^ (32 * L + s) /\ nat_Shl_l0 k m (((L : Int), (s : Int), (), a, (a.length : Int), (i : Int), ()), (o, ())) = some (Sum.inl (((), ()), (o', ()))) := by
 intro d
 induction d with
 | zero =>
  intro m i o hm hi hd ho hol hsm hz hv
  obtain ⟨m, rfl⟩ : ∃ i, m = i + 1 := ⟨m - 1, by omega⟩
  obtain rfl : i = a.length := by omega
  rw [List.take_length, p2_limb, <- p2_add, Int.mul_comm] at hv
  refine ⟨o, ho, hol, hv, ?_⟩
  have e : ¬ (a.length : Int) < (a.length : Int) := by omega
  simp only [nat_Shl_l0, cond_f e]
 | succ d ih =>
  intro m i o hm hi hd ho hol hsm hz hv
  obtain ⟨m, rfl⟩ : ∃ i, m = i + 1 := ⟨m - 1, by omega⟩
  have hai := U_getD ha i
  have hoi := U_getD ho (i + L)
  obtain ⟨hy0, hy1⟩ := mulp_bound hai.1 (show s <= 32 by omega) hai.2
  have hq := div_p2_lt (show s <= 32 by omega) hai.1 hai.2
  have hmm := mod_mod_p2 (x := a.getD i 0) (show s <= 32 by omega)
  obtain ⟨y, hy⟩ : ∃ y, y = a.getD i 0 * 2 ^ s := ⟨_, rfl⟩
  rw [<- hy] at hy0 hy1 hq hmm
  have hor := or_low (show s <= 32 by omega) hoi.1 hsm (show 0 <= y % 4294967296 by omega) (by omega) hmm
  have h32 := p2_mono (show s <= 32 by omega)
  have e32 : (2 : Int) ^ 32 = 4294967296 := rfl
  have hrange : o.getD (i + L) 0 + y % 4294967296 < 4294967296 := by
   have e : (4294967296 : Int) = 2 ^ s * 2 ^ (32 - s) := by rw [<- p2_add, show s + (32 - s) = 32 by omega]; rfl
   have hp := p2_pos s
   have hd1 := Int.mul_ediv_add_emod (y % 4294967296) (2 ^ s)
   rw [hmm] at hd1
   have hlt : 2 ^ s * (y % 4294967296 / 2 ^ s) < 2 ^ s * 2 ^ (32 - s) := by omega
   have hlt2 := Int.lt_of_mul_lt_mul_left hlt (by omega)
   have := Int.mul_le_mul_of_nonneg_left (show y % 4294967296 / 2 ^ s + 1 <= 2 ^ (32 - s) by omega) (show (0 : Int) <= 2 ^ s by omega)
   rw [Int.mul_add] at this
   omega
  have hz1 : (o.set (i + L) (o.getD (i + L) 0 + y % 4294967296)).getD (i + L + 1) 0 = 0 := by rw [getD_set_ne (by omega)]; exact hz _ (by omega)
  have hor2 := or_zero (m := y / 4294967296) (by omega) (by omega)
  have hqm : y / 4294967296 % 4294967296 = y / 4294967296 := by omega
  obtain ⟨o', r1, r2, r3, r4⟩ := ih m (i + 1) ((o.set (i + L) (o.getD (i + L) 0 + y % 4294967296)).set (i + L + 1) (y / 4294967296)) (by omega) (by omega) (by omega)
   (U_set (U_set ho _ (by omega) hrange) _ (by omega) (by omega)) (by simpa using hol)
   (by rw [show i + 1 + L = i + L + 1 by omega, getD_set_self (by simp; omega)]; exact hq)
   (fun q hq => by rw [getD_set_ne (by omega), getD_set_ne (by omega)]; exact hz _ (by omega))
   (by
    rw [val_set (by simp; omega), hz1, val_set (by omega), val_take_succ', pw_succ]
    rw [show o.getD (i + L) 0 + y % 4294967296 - o.getD (i + L) 0 = y % 4294967296 by omega, Int.sub_zero]
    exact step_shl (Int.emod_add_mul_ediv y 4294967296) hy (by rw [Nat.add_comm, pw_add]) hv)
  refine ⟨o', r1, r2, r3, ?_⟩
  have e : (i : Int) < (a.length : Int) := by omega
  have hs0 : ¬ (s : Int) < 0 := by omega
  have w1 : IntKind.u64.wrap (a.getD i 0) = a.getD i 0 := u64w hai.1 (by omega)
  have w2 : IntKind.u64.wrap (a.getD i 0 * 2 ^ min (Int.toNat (s : Int)) IntKind.u64.bits) = y := by rw [shlR (by omega), <- hy]; omega
  have w3 : IntKind.u32.wrap y = y % 4294967296 := by rw [IntKind.wrap_u32]
  have w4 : IntKind.u32.wrap (y / 4294967296) = y / 4294967296 := by rw [IntKind.wrap_u32, hqm]
  simp only [nat_Shl_l0, cond_t e, if_pos (Int.natCast_nonneg i), wad (show i + L < 4611686018427387904 by omega), wsu (show i + L < 4611686018427387904 by omega), wsu (show i < 4611686018427387904 by omega), if_neg hs0, if_pos (Int.natCast_nonneg (i + L)), if_pos (Int.natCast_nonneg (i + L + 1)), Int.toNat_natCast (i + L), Int.toNat_natCast (i + L + 1), Int.toNat_natCast i, gd (show i < a.length by omega), gd (show i + L < o.length by omega), Option.bind_some, w1, w2, w3, orR32, hor, shr32, w4]
  rw [gd (show i + L + 1 < (o.set (i + L) (o.getD (i + L) 0 + y % 4294967296)).length by simp; omega)]
  simp only [Option.bind_some, hz1, hor2]
  exact r4
theorem shl_ev (a : List Int) (n : Int) (ha : U a) (hl : a.length <= 536870912) : ∃ K, ∀ k, K <= k -> nat_Shl k a n = some (lim (shlv (val a) n), ()) := by
 have na := val_nonneg ha
 have la := lim_len na a.length (val_lt ha)
 obtain ⟨K1, h1⟩ := cut_ev a ha (by omega)
 unfold shlv
 by_cases c1 : n < 1
 ·refine ⟨K1, fun k hk => ?_⟩
  have hb1 : (lim (val a)).length * 4 <= 140737488355328 := by omega
  simp only [nat_Shl]
  rw [h1 k hk, Option.bind_some, cond_t c1, if_pos c1]
  dsimp only
  rw [if_pos hb1]
 ·by_cases c2 : n > 16777216
  ·refine ⟨K1, fun k hk => ?_⟩
   simp only [nat_Shl]
   rw [h1 k hk, Option.bind_some, cond_f c1, if_neg c1, cond_t c2, if_pos c2, lim_zero]
  ·by_cases c3 : val a = 0
   ·refine ⟨K1, fun k hk => ?_⟩
    simp only [nat_Shl]
    rw [h1 k hk, Option.bind_some, cond_f c1, if_neg c1, cond_f c2, if_neg c2, c3, lim_zero, Int.zero_mul, lim_zero]
    rfl
   ·obtain ⟨m, rfl⟩ : ∃ m : Nat, n = m := ⟨n.toNat, by omega⟩
    refine ⟨K1 + a.length + m + 3, fun k hk => ?_⟩
    obtain ⟨o, q1, q2, q3, q4⟩ := shl_l0 (lim (val a)) (U_lim na) (m / 32) (m % 32) k (by omega) (by omega) _ k 0 (List.replicate ((lim (val a)).length + m / 32 + 1) 0) (by omega) (by omega) rfl (U_replicate _) (by simp)
     (by
      have := p2_pos (m % 32)
      rw [List.getD_eq_getElem?_getD, List.getElem?_replicate]
      split <;> exact this)
     (fun q _ => by
      rw [List.getD_eq_getElem?_getD, List.getElem?_replicate]
      split <;> rfl)
     (by rw [val_replicate, List.take_zero, val_nil, Int.mul_zero])
    rw [val_lim na, show 32 * (m / 32) + m % 32 = m by omega] at q3
    rw [show ((0 : Nat) : Int) = 0 from rfl] at q4
    have hne : ((lim (val a)).length : Int) ≠ 0 := fun h => c3 ((lim_nil_iff na).1 (by omega))
    have hne' : (((lim (val a)).length : Int) == 0) = false := by rw [beq_eq_false_iff_ne]; exact hne
    have w1 : IntKind.i64.wrap (Int.tdiv (m : Int) 32) = ((m / 32 : Nat) : Int) := by rw [Int.tdiv_eq_ediv_of_nonneg (by omega), w64 (by omega) (by omega)]; omega
    have w2 : Int.tmod (m : Int) 32 = ((m % 32 : Nat) : Int) := by rw [Int.tmod_eq_emod_of_nonneg (by omega)]; omega
    have hb1 : ∀ n : Nat, n <= 1073741824 -> (True /\ (0 : Int) <= (n : Int) /\ (n : Int).toNat * 4 <= 140737488355328) := fun n h => ⟨trivial, by omega, by omega⟩
    simp only [nat_Shl]
    rw [h1 k (by omega), Option.bind_some, cond_f c1, if_neg c1, cond_f c2, if_neg c2]
    simp only [hne', cond_false, w1, w2, wad (show (lim (val a)).length + m / 32 < 4611686018427387904 by omega), wsu (show (lim (val a)).length + m / 32 < 4611686018427387904 by omega)]
    rw [if_pos (hb1 _ (by omega)), Int.toNat_natCast]
    erw [q4]
    simp only [Option.bind_some, Sum.elim_inl]
    rw [cut_eq o q1 (by omega) k (by omega), q3, Int.toNat_natCast]
    rfl
theorem join64 {x y : Int} (hx : 0 <= x /\ x < 4294967296) (hy : 0 <= y /\ y < 4294967296) : Go.bits .or .u64 x (y * 4294967296) = x + y * 4294967296 := by
 have e32 : (2 : Int) ^ 32 = 4294967296 := rfl
 have e64 : (2 : Int) ^ 64 = 18446744073709551616 := rfl
 have hor := bits_join .u64 64 (by decide) wraps_u64 32 (y * 4294967296) x (by omega) (by omega) (by omega) hx.1 (by omega) (by omega)
 rw [bits_or_comm, Int.add_comm] at hor
 exact hor
theorem shr_l0 (a : List Int) (ha : U a) (L s k : Nat) (hs : s < 32) (hL : L <= a.length) (hl : a.length <= 1073741824) :
  ∀ (d m i : Nat) (o : List Int), d < m -> i <= a.length - L -> a.length - L - i = d -> U o -> o.length = a.length - L -> val (o.take i) = val (a.drop L) / 2 ^ s % pw i ->
   ∃ o', U o' /\ o'.length = a.length - L /\ val o' = val (a.drop L) / 2 ^ s /\ nat_Shr_l0 k m ((a, (L : Int), (s : Int), (), ((a.length - L : Nat) : Int), (i : Int), ()), (o, ())) = some (Sum.inl (((), ()), (o', ()))) := by
 have hdl : (a.drop L).length = a.length - L := List.length_drop
 intro d
 induction d with
 | zero =>
  intro m i o hm hi hd ho hol hv
  obtain ⟨m, rfl⟩ : ∃ i, m = i + 1 := ⟨m - 1, by omega⟩
  obtain rfl : i = a.length - L := by omega
  have hlt := val_lt (U_drop ha L)
  have h0 := val_nonneg (U_drop ha L)
  have hp := p2_pos s
  have hle := Int.ediv_le_self (b := 2 ^ s) h0
  have hge := Int.ediv_nonneg h0 (show (0 : Int) <= 2 ^ s by omega)
  rw [hdl] at hlt
  rw [Int.emod_eq_of_lt hge (by omega), take_out o _ (by omega)] at hv
  have e : ¬ ((a.length - L : Nat) : Int) < ((a.length - L : Nat) : Int) := by omega
  refine ⟨o, ho, hol, hv, ?_⟩
  simp only [nat_Shr_l0, cond_f e]
 | succ d ih =>
  intro m i o hm hi hd ho hol hv
  obtain ⟨m, rfl⟩ : ∃ i, m = i + 1 := ⟨m - 1, by omega⟩
  have hai := U_getD ha (i + L)
  have hbi := U_getD ha (i + L + 1)
  have hdig := shr_digit (U_drop ha L) (i := i) (by omega) (show s <= 32 by omega)
  rw [getD_drop, getD_drop, show L + i = i + L by omega, show L + (i + 1) = i + L + 1 by omega] at hdig
  obtain ⟨z, hz⟩ : ∃ z, z = (a.getD (i + L) 0 + a.getD (i + L + 1) 0 * 4294967296) / 2 ^ s % 4294967296 := ⟨_, rfl⟩
  have hz0 : 0 <= z /\ z < 4294967296 := by omega
  obtain ⟨o', r1, r2, r3, r4⟩ := ih m (i + 1) (o.set i z) (by omega) (by omega) (by omega) (U_set ho _ hz0.1 hz0.2) (by simpa using hol)
   (by rw [val_set_take (by omega), hv, pw_succ, emod_succ _ _ (pw_pos i), hdig, hz])
  refine ⟨o', r1, r2, r3, ?_⟩
  have hor := join64 hai hbi
  have e : (i : Int) < ((a.length - L : Nat) : Int) := by omega
  have hs0 : ¬ (s : Int) < 0 := by omega
  have w1 : IntKind.u64.wrap (a.getD (i + L) 0) = a.getD (i + L) 0 := u64w hai.1 (by omega)
  have w2 : IntKind.u64.wrap (a.getD (i + L + 1) 0) = a.getD (i + L + 1) 0 := u64w hbi.1 (by omega)
  have w3 : IntKind.u64.wrap (a.getD (i + L + 1) 0 * 2 ^ min (Int.toNat 32) IntKind.u64.bits) = a.getD (i + L + 1) 0 * 4294967296 := (shlR (s := 32) (by omega)).trans (by rw [show (2 : Int) ^ 32 = 4294967296 from rfl]; omega)
  simp only [nat_Shr_l0, cond_t e, wad (show i + L < 4611686018427387904 by omega), wsu (show i + L < 4611686018427387904 by omega), wsu (show i < 4611686018427387904 by omega), if_neg hs0, if_pos (Int.natCast_nonneg (i + L)), if_pos (Int.natCast_nonneg (i + L + 1)), if_pos (Int.natCast_nonneg i), Int.toNat_natCast (i + L), Int.toNat_natCast (i + L + 1), Int.toNat_natCast i, gd (show i + L < a.length by omega), gd (show i < o.length by omega), Option.bind_some, w1]
  by_cases hb : i + L + 1 < a.length
  ·have e2 : ((i + L + 1 : Nat) : Int) < (a.length : Int) := by omega
   rw [cond_t e2, gd hb, Option.bind_some, w2, w3, orR, hor, shrR (by omega), IntKind.wrap_u32, <- hz]
   exact r4
  ·rw [getD_out a (i + L + 1) (by omega), Int.zero_mul, Int.add_zero] at hz
   have e2 : ¬ ((i + L + 1 : Nat) : Int) < (a.length : Int) := by omega
   rw [cond_f e2, shrR (by omega), IntKind.wrap_u32, <- hz]
   exact r4
theorem shr_ev (a : List Int) (n : Int) (ha : U a) (hl : a.length <= 1073741824) : ∃ K, ∀ k, K <= k -> nat_Shr k a n = some (lim (shrv (val a) n), ()) := by
 have na := val_nonneg ha
 have la := lim_len na a.length (val_lt ha)
 obtain ⟨K1, h1⟩ := cut_ev a ha (by omega)
 unfold shrv
 by_cases c1 : n < 1
 ·refine ⟨K1, fun k hk => ?_⟩
  have hb1 : (lim (val a)).length * 4 <= 140737488355328 := by omega
  simp only [nat_Shr]
  rw [h1 k hk, Option.bind_some, cond_t c1, if_pos c1]
  dsimp only
  rw [if_pos hb1]
 ·obtain ⟨m, rfl⟩ : ∃ m : Nat, n = m := ⟨n.toNat, by omega⟩
  have hw : IntKind.i64.wrap (32 * ((lim (val a)).length : Int)) = 32 * ((lim (val a)).length : Int) := w64 (by omega) (by omega)
  by_cases c2 : m >= 32 * (lim (val a)).length
  ·have hlt := val_lt (U_lim na)
   rw [val_lim na, p2_limb] at hlt
   have hm := p2_mono c2
   have e : (m : Int) >= 32 * ((lim (val a)).length : Int) := by omega
   refine ⟨K1, fun k hk => ?_⟩
   simp only [nat_Shr]
   rw [h1 k hk, Option.bind_some, cond_f c1, if_neg c1]
   dsimp only
   rw [hw, cond_t e, Int.toNat_natCast, Int.ediv_eq_zero_of_lt na (by omega), lim_zero]
  ·have hL : m / 32 <= (lim (val a)).length := by omega
   have e : ¬ (m : Int) >= 32 * ((lim (val a)).length : Int) := by omega
   refine ⟨K1 + a.length + 3, fun k hk => ?_⟩
   obtain ⟨o, q1, q2, q3, q4⟩ := shr_l0 (lim (val a)) (U_lim na) (m / 32) (m % 32) k (by omega) hL (by omega) _ k 0 (List.replicate ((lim (val a)).length - m / 32) 0) (by omega) (by omega) rfl (U_replicate _) (by simp)
    (by rw [List.take_zero, val_nil, pw_zero, Int.emod_one])
   rw [<- val_div (U_lim na) hL, val_lim na, p2_limb, Int.ediv_ediv_of_nonneg (show (0 : Int) <= 2 ^ (32 * (m / 32)) by have := p2_pos (32 * (m / 32)); omega), <- p2_add, show 32 * (m / 32) + m % 32 = m by omega] at q3
   rw [show ((0 : Nat) : Int) = 0 from rfl] at q4
   have w1 : IntKind.i64.wrap (Int.tdiv (m : Int) 32) = ((m / 32 : Nat) : Int) := by rw [Int.tdiv_eq_ediv_of_nonneg (by omega), w64 (by omega) (by omega)]; omega
   have w2 : Int.tmod (m : Int) 32 = ((m % 32 : Nat) : Int) := by rw [Int.tmod_eq_emod_of_nonneg (by omega)]; omega
   have w3 : IntKind.i64.wrap (((lim (val a)).length : Int) - ((m / 32 : Nat) : Int)) = (((lim (val a)).length - m / 32 : Nat) : Int) := by rw [w64 (by omega) (by omega)]; omega
   have hb1 : ∀ n : Nat, n <= 1073741824 -> (True /\ (0 : Int) <= (n : Int) /\ (n : Int).toNat * 4 <= 140737488355328) := fun n h => ⟨trivial, by omega, by omega⟩
   simp only [nat_Shr]
   rw [h1 k (by omega), Option.bind_some, cond_f c1, if_neg c1]
   dsimp only
   rw [hw, cond_f e]
   simp only [w1, w2, w3, List.length_replicate]
   rw [if_pos (hb1 _ (by omega)), Int.toNat_natCast]
   erw [q4]
   simp only [Option.bind_some, Sum.elim_inl]
   rw [cut_eq o q1 (by omega) k (by omega), q3, Int.toNat_natCast]
   rfl
theorem orR64 (a b : Int) : IntKind.u64.wrap (BitVec.toNat (BitVec.ofInt IntKind.u64.bits a ||| BitVec.ofInt IntKind.u64.bits b)) = Go.bits .or .u64 a b := rfl
theorem sh32 {x : Int} (h0 : 0 <= x) (h1 : x < 4294967296) : IntKind.u64.wrap (x * 2 ^ min (Int.toNat 32) IntKind.u64.bits) = x * 4294967296 :=
 (shlR (s := 32) (by omega)).trans (by rw [show (2 : Int) ^ 32 = 4294967296 from rfl]; omega)
theorem or_join64 {h l : Int} (h0 : 0 <= h) (h1 : h < 4294967296) (l0 : 0 <= l) (l1 : l < 4294967296) : Go.bits .or .u64 (h * 4294967296) l = h * 4294967296 + l := by
 have e64 : (2 : Int) ^ 64 = 18446744073709551616 := rfl
 have e32 : (2 : Int) ^ 32 = 4294967296 := rfl
 exact bits_join .u64 64 (by decide) wraps_u64 32 (h * 4294967296) l (by omega) (by omega) (by omega) l0 (by omega) (by omega)
theorem div32 (k : Nat) {h l y : Int} (h0 : 0 <= h) (h1 : h < y) (l0 : 0 <= l) (l1 : l < 4294967296) (hy : y < 4294967296) : bits_Div32 k h l y = some ((h * 4294967296 + l) / y, (h * 4294967296 + l) % y, ()) := by
 have hn : 0 <= h * 4294967296 + l := by omega
 have hq : (h * 4294967296 + l) / y < 4294967296 := by
  rw [Int.ediv_lt_iff_lt_mul (by omega)]
  have := Int.mul_le_mul_of_nonneg_left (show h + 1 <= y by omega) (show (0 : Int) <= 4294967296 by decide)
  omega
 have hq0 := Int.ediv_nonneg hn (show 0 <= y by omega)
 have hr0 := Int.emod_nonneg (h * 4294967296 + l) (show y ≠ 0 by omega)
 have hr1 := Int.emod_lt_of_pos (h * 4294967296 + l) (show 0 < y by omega)
 have hb : (y != 0) = true := bne_iff_ne.mpr (by omega)
 have hyz : ¬ y = 0 := by omega
 simp only [bits_Div32, hb, cond_true, cond_f (show ¬ y <= h by omega), u64w (x := y) (by omega) (by omega), if_neg hyz, u64w (x := h) (by omega) (by omega), u64w (x := l) (by omega) (by omega), sh32 h0 (show h < 4294967296 by omega), orR64, or_join64 h0 (show h < 4294967296 by omega) l0 l1, Int.tdiv_eq_ediv_of_nonneg hn, Int.tmod_eq_emod_of_nonneg hn, u64w hq0 (show (h * 4294967296 + l) / y < 18446744073709551616 by omega), u32w hq0 hq, u32w hr0 (show (h * 4294967296 + l) % y < 4294967296 by omega)]
theorem step_short {A Q l x q r D : Int} (e : D * q + r = l * 4294967296 + x) (h : A = D * Q + l) : x + 4294967296 * A = D * (q + 4294967296 * Q) + r := by
 subst h
 grind
theorem wlast {n i d : Nat} (h : n = i + d + 1) (hb : n < 4611686018427387904) : IntKind.i64.wrap (IntKind.i64.wrap ((n : Int) - 1) - (i : Int)) = (d : Int) := by
 rw [w64 (x := (n : Int) - 1) (by omega) (by omega), w64 (by omega) (by omega)]; omega
theorem short_l0 (k : Nat) (a : List Int) (D : Int) (ha : U a) (hD0 : 0 < D) (hD1 : D < 4294967296) (hl : a.length <= 1073741824) :
  ∀ (d m i : Nat) (q : List Int) (left : Int), d < m -> i <= a.length -> a.length - i = d -> U q -> q.length = a.length -> 0 <= left -> left < D -> val (a.drop d) = D * val (q.drop d) + left ->
   ∃ q' left', U q' /\ q'.length = a.length /\ 0 <= left' /\ left' < D /\ val a = D * val q' + left' /\ nat_short_l0 k m ((a, D, (), left, (a.length : Int), (i : Int), ()), (q, ())) = some (Sum.inl (((), left', ()), (q', ()))) := by
 intro d
 induction d with
 | zero =>
  intro m i q left hm hi hd hq hql h0 h1 hv
  obtain ⟨m, rfl⟩ : ∃ i, m = i + 1 := ⟨m - 1, by omega⟩
  rw [List.drop_zero, List.drop_zero] at hv
  refine ⟨q, left, hq, hql, h0, h1, hv, ?_⟩
  have e : ¬ (i : Int) < (a.length : Int) := by omega
  simp only [nat_short_l0, cond_f e]
 | succ d ih =>
  intro m i q left hm hi hd hq hql h0 h1 hv
  obtain ⟨m, rfl⟩ : ∃ i, m = i + 1 := ⟨m - 1, by omega⟩
  have hai := U_getD ha d
  have hn : 0 <= left * 4294967296 + a.getD d 0 := by omega
  have hq1 : (left * 4294967296 + a.getD d 0) / D < 4294967296 := by
   rw [Int.ediv_lt_iff_lt_mul hD0]
   have := Int.mul_le_mul_of_nonneg_left (show left + 1 <= D by omega) (show (0 : Int) <= 4294967296 by decide)
   omega
  have hq0 := Int.ediv_nonneg hn (show 0 <= D by omega)
  have hr0 := Int.emod_nonneg (left * 4294967296 + a.getD d 0) (show D ≠ 0 by omega)
  have hr1 := Int.emod_lt_of_pos (left * 4294967296 + a.getD d 0) hD0
  obtain ⟨q', left', r1, r2, r3, r4, r5, r6⟩ := ih m (i + 1) (q.set d ((left * 4294967296 + a.getD d 0) / D)) ((left * 4294967296 + a.getD d 0) % D) (by omega) (by omega) (by omega) (U_set hq _ hq0 hq1) (by simpa using hql) hr0 hr1
   (by
    rw [val_drop (by omega), val_drop (l := q.set _ _) (by simp; omega), getD_set_self (by omega), drop_set_lt (by omega)]
    exact step_short (Int.mul_ediv_add_emod _ _) hv)
  refine ⟨q', left', r1, r2, r3, r4, r5, ?_⟩
  have e : (i : Int) < (a.length : Int) := by omega
  simp only [nat_short_l0, cond_t e, wlast (show a.length = i + d + 1 by omega) (by omega), if_pos (Int.natCast_nonneg d), Int.toNat_natCast, gd (show d < a.length by omega), Option.bind_some, div32 k h0 h1 hai.1 hai.2 hD1, gd (show d < q.length by omega), wsu (show i < 4611686018427387904 by omega)]
  exact r6
theorem short_ev (a : List Int) (D : Int) (ha : U a) (hD0 : 0 < D) (hD1 : D < 4294967296) (hl : a.length <= 1073741824) : ∃ K, ∀ k, K <= k -> nat_short k a D = some (lim (val a / D), lim (val a % D), ()) := by
 refine ⟨a.length + 3, fun k hk => ?_⟩
 obtain ⟨q, left, r1, r2, r3, r4, r5, r6⟩ := short_l0 k a D ha hD0 hD1 hl a.length k 0 (List.replicate a.length 0) 0 (by omega) (by omega) rfl (U_replicate _) (by simp) (by omega) hD0 (by rw [List.drop_length, List.drop_of_length_le (by simp)]; simp)
 have e1 : val a / D = val q := by rw [r5, Int.add_comm, Int.add_mul_ediv_left _ _ (by omega), Int.ediv_eq_zero_of_lt r3 r4]; omega
 have e2 : val a % D = left := by rw [r5, Int.add_comm, Int.add_mul_emod_self_left, Int.emod_eq_of_lt r3 r4]
 have e3 : val [left] = left := by simp
 simp only [nat_short]
 rw [if_pos ⟨trivial, by omega, by rw [Int.toNat_natCast]; omega⟩, Int.toNat_natCast]
 rw [show ((0 : Nat) : Int) = 0 from rfl] at r6
 erw [r6]
 simp only [Option.bind_some, Sum.elim_inl]
 rw [cut_eq q r1 (by omega) k (by omega), Option.bind_some, cut_eq [left] (U_single r3 (by omega)) (by simp) k (by simp; omega), Option.bind_some, e1, e2, e3]
def gss (X V : Int) : Int := if 4294967295 <= X / V then 4294967295 else X / V
theorem guess_l0 (u2 u1 u0 v1 v0 : Int) (hu1 : 0 <= u1 /\ u1 < 4294967296) (hu0 : 0 <= u0 /\ u0 < 4294967296) (hv1 : 0 < v1 /\ v1 < 4294967296) (hv0 : 0 <= v0 /\ v0 < 4294967296) (h2 : u2 <= v1) (n : Nat) :
  ∀ (left : Int), (n : Int) <= 4294967297 -> left = (u2 * 4294967296 + u1) - (n : Int) * v1 -> 0 <= left -> left < 4294967296 -> gss ((u2 * 4294967296 + u1) * 4294967296 + u0) (v1 * 4294967296 + v0) <= n ->
   ∃ K, ∀ k m, K <= m -> nat_guess_l0 k m ((u0, v1, v0, (n : Int), left, ()), ()) = some (Sum.inl ((gss ((u2 * 4294967296 + u1) * 4294967296 + u0) (v1 * 4294967296 + v0), ()), ())) := by
 have hV : 0 < v1 * 4294967296 + v0 := by omega
 induction n with
 | zero =>
  intro left hn hleft h0 h1 hg
  have hle : gss ((u2 * 4294967296 + u1) * 4294967296 + u0) (v1 * 4294967296 + v0) = 0 := by
   have : 0 <= ((u2 * 4294967296 + u1) * 4294967296 + u0) / (v1 * 4294967296 + v0) := Int.ediv_nonneg (by omega) (by omega)
   unfold gss at hg ⊢
   split at hg <;> split <;> omega
  refine ⟨2, fun k m hm => ?_⟩
  obtain ⟨m, rfl⟩ : ∃ j, m = j + 1 := ⟨m - 1, by omega⟩
  have c1 : ¬ ((0 : Nat) : Int) > 4294967295 := by omega
  have c2 : ¬ IntKind.u64.wrap (((0 : Nat) : Int) * v0) > left * 4294967296 + u0 := by rw [Int.natCast_zero, Int.zero_mul, u64w (by omega) (by omega)]; omega
  simp only [nat_guess_l0, cond_f c1, u64w hv0.1 (show v0 < 18446744073709551616 by omega), u64w hu0.1 (show u0 < 18446744073709551616 by omega), sh32 h0 h1, orR64, or_join64 h0 h1 hu0.1 hu0.2, cond_f c2, hle]
  rfl
 | succ n ih =>
  intro left hn hleft h0 h1 hg
  have hnv : ((n + 1 : Nat) : Int) * v1 = (n : Int) * v1 + v1 := by
   rw [show ((n + 1 : Nat) : Int) = (n : Int) + 1 by omega, Int.add_mul, Int.one_mul]
  have htest : ((n + 1 : Nat) : Int) * v0 > left * 4294967296 + u0 ↔ (u2 * 4294967296 + u1) * 4294967296 + u0 < ((n + 1 : Nat) : Int) * (v1 * 4294967296 + v0) := by
   have e : ((n + 1 : Nat) : Int) * (v1 * 4294967296 + v0) = ((n + 1 : Nat) : Int) * v1 * 4294967296 + ((n + 1 : Nat) : Int) * v0 := by grind
   rw [e, hleft]
   generalize ((n + 1 : Nat) : Int) * v1 = p
   generalize ((n + 1 : Nat) : Int) * v0 = q
   omega
  have hdiv : (u2 * 4294967296 + u1) * 4294967296 + u0 < ((n + 1 : Nat) : Int) * (v1 * 4294967296 + v0) ↔ ((u2 * 4294967296 + u1) * 4294967296 + u0) / (v1 * 4294967296 + v0) < ((n + 1 : Nat) : Int) := by
   rw [Int.ediv_lt_iff_lt_mul hV]
  have wv0 : IntKind.u64.wrap v0 = v0 := u64w hv0.1 (by omega)
  have wv1 : IntKind.u64.wrap v1 = v1 := u64w (by omega) (by omega)
  have wu0 : IntKind.u64.wrap u0 = u0 := u64w hu0.1 (by omega)
  have wlv : IntKind.u64.wrap (left + v1) = left + v1 := u64w (by omega) (by omega)
  have wn1 : IntKind.u64.wrap (((n + 1 : Nat) : Int) - 1) = (n : Int) := by rw [u64w (by omega) (by omega)]; omega
  have hmul : 0 <= ((n + 1 : Nat) : Int) * v0 /\ (((n + 1 : Nat) : Int) <= 4294967295 -> ((n + 1 : Nat) : Int) * v0 < 18446744073709551616) := by
   refine ⟨Int.mul_nonneg (by omega) hv0.1, fun hle => ?_⟩
   have := mul_bound (x := ((n + 1 : Nat) : Int)) (y := v0) (by omega) hv0
   omega
  by_cases hbig : ((n + 1 : Nat) : Int) > 4294967295 \/ ((u2 * 4294967296 + u1) * 4294967296 + u0) / (v1 * 4294967296 + v0) < ((n + 1 : Nat) : Int)
  ·
   have hg' : gss ((u2 * 4294967296 + u1) * 4294967296 + u0) (v1 * 4294967296 + v0) <= n := by
    unfold gss
    split <;> omega
   have hl' : left + v1 = (u2 * 4294967296 + u1) - (n : Int) * v1 := by omega
   have hround : ∀ k m, nat_guess_l0 k (m + 1) ((u0, v1, v0, ((n + 1 : Nat) : Int), left, ()), ()) = bif decide (left + v1 > 4294967295) then some (Sum.inl (((n : Int), ()), ())) else nat_guess_l0 k m ((u0, v1, v0, (n : Int), left + v1, ()), ()) := by
    intro k m
    by_cases hc : ((n + 1 : Nat) : Int) > 4294967295
    ·simp only [nat_guess_l0, cond_t hc, wv1, wlv, wn1]
    ·have c2 : ((n + 1 : Nat) : Int) * v0 > left * 4294967296 + u0 := htest.2 (hdiv.2 (by omega))
     simp only [nat_guess_l0, cond_f hc, wv0, wv1, wu0, wlv, wn1, sh32 h0 h1, orR64, or_join64 h0 h1 hu0.1 hu0.2, u64w hmul.1 (hmul.2 (show ((n + 1 : Nat) : Int) <= 4294967295 by omega)), cond_t c2]
   by_cases hbrk : left + v1 > 4294967295
   ·have hnle : (n : Int) <= 4294967295 := by
     by_cases hq : (n : Int) <= 4294967295
     ·exact hq
     ·have hnB : (n : Int) = 4294967296 := by omega
      rw [hnB] at hl'
      omega
    have hres : gss ((u2 * 4294967296 + u1) * 4294967296 + u0) (v1 * 4294967296 + v0) = (n : Int) := by
     have hge : (n : Int) <= ((u2 * 4294967296 + u1) * 4294967296 + u0) / (v1 * 4294967296 + v0) := by
      rw [Int.le_ediv_iff_mul_le hV]
      have hm := mul_bound (x := (n : Int)) (y := v0) (by omega) hv0
      have e : (n : Int) * (v1 * 4294967296 + v0) = (n : Int) * v1 * 4294967296 + (n : Int) * v0 := by grind
      rw [e]
      generalize (n : Int) * v1 = p at *
      generalize (n : Int) * v0 = q at *
      omega
     unfold gss at hg' ⊢
     split at hg' <;> split <;> omega
    refine ⟨2, fun k m hm => ?_⟩
    obtain ⟨m, rfl⟩ : ∃ j, m = j + 1 := ⟨m - 1, by omega⟩
    rw [hround, cond_t hbrk, hres]
   ·obtain ⟨K, hK⟩ := ih (left + v1) (by omega) hl' (by omega) (by omega) hg'
    refine ⟨K + 2, fun k m hm => ?_⟩
    obtain ⟨m, rfl⟩ : ∃ j, m = j + 1 := ⟨m - 1, by omega⟩
    rw [hround, cond_f hbrk]
    exact hK k m (by omega)
  ·
   have hres : gss ((u2 * 4294967296 + u1) * 4294967296 + u0) (v1 * 4294967296 + v0) = ((n + 1 : Nat) : Int) := by
    unfold gss at hg ⊢
    split at hg <;> split <;> omega
   have c1 : ¬ ((n + 1 : Nat) : Int) > 4294967295 := fun h => hbig (.inl h)
   have c2 : ¬ ((n + 1 : Nat) : Int) * v0 > left * 4294967296 + u0 := fun hc => hbig (.inr (hdiv.1 (htest.1 hc)))
   refine ⟨2, fun k m hm => ?_⟩
   obtain ⟨m, rfl⟩ : ∃ j, m = j + 1 := ⟨m - 1, by omega⟩
   simp only [nat_guess_l0, cond_f c1, wv0, wu0, sh32 h0 h1, orR64, or_join64 h0 h1 hu0.1 hu0.2, u64w hmul.1 (hmul.2 (show ((n + 1 : Nat) : Int) <= 4294967295 by omega)), cond_f c2, hres]
theorem guess_ev (u2 u1 u0 v1 v0 : Int) (hu2 : 0 <= u2) (hu1 : 0 <= u1 /\ u1 < 4294967296) (hu0 : 0 <= u0 /\ u0 < 4294967296) (hv1 : 2147483648 <= v1 /\ v1 < 4294967296) (hv0 : 0 <= v0 /\ v0 < 4294967296) (h2 : u2 <= v1) :
  ∃ K, ∀ k, K <= k -> nat_guess k u2 u1 u0 v1 v0 = some (gss ((u2 * 4294967296 + u1) * 4294967296 + u0) (v1 * 4294967296 + v0), ()) := by
 have hn : 0 <= u2 * 4294967296 + u1 := by omega
 have hq0 := Int.ediv_nonneg hn (show 0 <= v1 by omega)
 have hr0 := Int.emod_nonneg (u2 * 4294967296 + u1) (show v1 ≠ 0 by omega)
 have hr1 := Int.emod_lt_of_pos (u2 * 4294967296 + u1) (show 0 < v1 by omega)
 have hdm := Int.mul_ediv_add_emod (u2 * 4294967296 + u1) v1
 have hq1 : (u2 * 4294967296 + u1) / v1 <= 4294967297 := by
  have : (u2 * 4294967296 + u1) / v1 < 4294967298 := by
   rw [Int.ediv_lt_iff_lt_mul (by omega)]
   omega
  omega
 have hle : gss ((u2 * 4294967296 + u1) * 4294967296 + u0) (v1 * 4294967296 + v0) <= (u2 * 4294967296 + u1) / v1 := by
  have h3 : ((u2 * 4294967296 + u1) * 4294967296 + u0) / (v1 * 4294967296 + v0) < (u2 * 4294967296 + u1) / v1 + 1 := by
   rw [Int.ediv_lt_iff_lt_mul (by omega)]
   have e : ((u2 * 4294967296 + u1) / v1 + 1) * (v1 * 4294967296 + v0) = (v1 * ((u2 * 4294967296 + u1) / v1) + v1) * 4294967296 + ((u2 * 4294967296 + u1) / v1 + 1) * v0 := by grind
   have hm := Int.mul_nonneg (show 0 <= (u2 * 4294967296 + u1) / v1 + 1 by omega) hv0.1
   rw [e]
   generalize v1 * ((u2 * 4294967296 + u1) / v1) = p at *
   generalize ((u2 * 4294967296 + u1) / v1 + 1) * v0 = q at *
   omega
  unfold gss
  split <;> omega
 have hg0 : 0 <= gss ((u2 * 4294967296 + u1) * 4294967296 + u0) (v1 * 4294967296 + v0) /\ gss ((u2 * 4294967296 + u1) * 4294967296 + u0) (v1 * 4294967296 + v0) <= 4294967295 := by
  have : 0 <= ((u2 * 4294967296 + u1) * 4294967296 + u0) / (v1 * 4294967296 + v0) := Int.ediv_nonneg (by omega) (by omega)
  unfold gss
  split <;> omega
 obtain ⟨m, hm⟩ : ∃ m : Nat, (u2 * 4294967296 + u1) / v1 = m := ⟨((u2 * 4294967296 + u1) / v1).toNat, by omega⟩
 obtain ⟨K, hgl⟩ := guess_l0 u2 u1 u0 v1 v0 hu1 hu0 (by omega) hv0 h2 m ((u2 * 4294967296 + u1) % v1) (by omega) (by have e := hdm; rw [hm, Int.mul_comm v1] at e; omega) hr0 (by omega) (by omega)
 refine ⟨K, fun k hk => ?_⟩
 have hz : ¬ v1 = 0 := by omega
 have e := hgl k k hk
 simp only [nat_guess, u64w (x := v1) (by omega) (show v1 < 18446744073709551616 by omega), if_neg hz, u64w hu2 (show u2 < 18446744073709551616 by omega), u64w hu1.1 (show u1 < 18446744073709551616 by omega), sh32 hu2 (show u2 < 4294967296 by omega), orR64, or_join64 hu2 (show u2 < 4294967296 by omega) hu1.1 hu1.2, Int.tdiv_eq_ediv_of_nonneg hn, Int.tmod_eq_emod_of_nonneg hn, hm, u64w (show 0 <= (m : Int) by omega) (show (m : Int) < 18446744073709551616 by omega)]
 erw [e]
 simp only [Option.bind_some, Sum.elim_inl]
 rw [u32w (by omega) (by omega)]
theorem lt_of_zeros {l : List Int} (hu : U l) {j : Nat} (h : ∀ q, j <= q -> l.getD q 0 = 0) : val l < pw j := by
 by_cases hl : j <= l.length
 ·have e := val_split l j hl
  have hz : val (l.drop j) = 0 := val_zero_of (fun q => by rw [getD_drop]; exact h _ (by omega))
  have h1 := val_lt (U_take hu j)
  rw [List.length_take, Nat.min_eq_left hl] at h1
  rw [hz, Int.mul_zero] at e
  omega
 ·have h1 := val_lt hu
  have h2 := pw_mono (show l.length <= j by omega)
  omega
theorem gss_good {R D P Q V X : Int} (hP : 0 < P) (hQ : 0 < Q) (hD : 0 < D) (hR0 : 0 <= R) (hR : R < P * D * 4294967296) (hV : V = D / Q) (hVB : 4294967296 <= V) (hX : X = R / (P * Q)) :
  0 <= gss X V /\ gss X V <= 4294967295 /\ ((0 <= R - P * (gss X V * D) /\ R - P * (gss X V * D) < P * D) \/ (R - P * (gss X V * D) < 0 /\ 1 <= gss X V /\ 0 <= R - P * ((gss X V - 1) * D) /\ R - P * ((gss X V - 1) * D) < P * D)) := by
 have hPD := Int.mul_pos hP hD
 have hPQ := Int.mul_pos hP hQ
 have hX0 : 0 <= X := by rw [hX]; exact Int.ediv_nonneg hR0 (by omega)
 have hXV := Int.ediv_nonneg hX0 (show 0 <= V by omega)
 obtain ⟨s, hs⟩ : ∃ s, s = R / (P * D) := ⟨_, rfl⟩
 have hs0 : 0 <= s := by rw [hs]; exact Int.ediv_nonneg hR0 (by omega)
 have hsB : s <= 4294967295 := by
  have : s < 4294967296 := by rw [hs, Int.ediv_lt_iff_lt_mul hPD]; rw [Int.mul_comm]; exact hR
  omega
 have hdm := Int.mul_ediv_add_emod R (P * D)
 have hm0 := Int.emod_nonneg R (show P * D ≠ 0 by omega)
 have hm1 := Int.emod_lt_of_pos R hPD
 rw [<- hs] at hdm
 have hVQ : V * Q <= D := by
  have := Int.mul_ediv_add_emod D Q
  have h1 := Int.emod_nonneg D (show Q ≠ 0 by omega)
  rw [<- hV] at this
  rw [Int.mul_comm]
  omega
 have hVQ2 : D < (V + 1) * Q := by
  have := Int.mul_ediv_add_emod D Q
  have h1 := Int.emod_lt_of_pos D hQ
  rw [<- hV] at this
  rw [Int.add_mul, Int.mul_comm V]
  omega
 obtain ⟨t, ht⟩ : ∃ t, t = gss X V := ⟨_, rfl⟩
 rw [<- ht]
 have ht0 : 0 <= t /\ t <= 4294967295 /\ t <= X / V := by
  rw [ht]; unfold gss; split <;> omega
 have hlow : s <= t := by
  have h1 : s <= X / V := by
   rw [Int.le_ediv_iff_mul_le (by omega), hX, Int.le_ediv_iff_mul_le hPQ]
   have h2 := Int.mul_le_mul_of_nonneg_left hVQ (show 0 <= s * P from Int.mul_nonneg hs0 (by omega))
   have e1 : s * V * (P * Q) = s * P * (V * Q) := by grind
   have e2 : s * P * D = P * D * s := by grind
   rw [e1]
   omega
  rw [ht]; unfold gss; split <;> omega
 have hup : t <= s + 1 := by
  by_cases hc : t <= s + 1
  ·exact hc
  ·have h1 : t * V <= X := (Int.le_ediv_iff_mul_le (by omega)).1 ht0.2.2
   rw [hX, Int.le_ediv_iff_mul_le hPQ] at h1
   have h2 : R < P * D * (s + 1) := by rw [Int.mul_add, Int.mul_one]; omega
   have h3 := Int.mul_le_mul_of_nonneg_left (show s + 1 <= t - 1 by omega) (show 0 <= P * D by omega)
   have h4 := Int.mul_le_mul_of_nonneg_left (show D <= (V + 1) * Q by omega) (show 0 <= P * (t - 1) from Int.mul_nonneg (by omega) (by omega))
   have e1 : P * (t - 1) * D = P * D * (t - 1) := by grind
   have e2 : P * (t - 1) * ((V + 1) * Q) = (V + 1) * (t - 1) * (P * Q) := by grind
   have h5 : t * V * (P * Q) < (V + 1) * (t - 1) * (P * Q) := by omega
   have h6 := Int.lt_of_mul_lt_mul_right h5 (by omega)
   have e3 : (V + 1) * (t - 1) = t * V + t - V - 1 := by grind
   omega
 refine ⟨ht0.1, ht0.2.1, ?_⟩
 have es : P * (s * D) = P * D * s := by grind
 rcases (show t = s \/ t = s + 1 by omega) with rfl | rfl
 ·exact .inl ⟨by omega, by omega⟩
 ·right
  have e1 : P * ((s + 1) * D) = P * D * s + P * D := by grind
  have e2 : P * ((s + 1 - 1) * D) = P * D * s := by grind
  exact ⟨by omega, by omega, by omega, by omega⟩
theorem step_less {V P q S Q y c b r o r' b' h n : Int} (e1 : r' - 4294967296 * b' = o - r - b) (e2 : r + 4294967296 * h = n) (hn : n = y * q + c) : V - P * (q * S) + P * Q * (c + b) + P * Q * (r' - o) = V - P * (q * (S + Q * y)) + 4294967296 * (P * Q) * (h + b') := by
 have h1 : P * Q * (r' - 4294967296 * b') = P * Q * (o - r - b) := by rw [e1]
 have h2 : P * Q * (r + 4294967296 * h) = P * Q * (y * q + c) := by rw [e2, hn]
 grind
theorem step_more {V P S Q y c r o s n : Int} (e : r + 4294967296 * s = o + y + c) : V + P * S - P * Q * c + P * Q * (r - o) = V + P * (S + Q * y) - 4294967296 * (P * Q) * s := by
 have h1 : P * Q * (r + 4294967296 * s) = P * Q * (o + y + c) := by rw [e]
 grind
theorem sub32' {x y c : Int} (hx : 0 <= x /\ x < 4294967296) (hy : 0 <= y /\ y < 4294967296) (hc : 0 <= c /\ c <= 1) : ∃ r b : Int, (∀ k, bits_Sub32 k x y c = some (r, b, ())) /\ r - 4294967296 * b = x - y - c /\ (0 <= r /\ r < 4294967296) /\ 0 <= b /\ b <= 1 := by
 refine ⟨(x - y - c) % 4294967296, if x - y - c < 0 then 1 else 0, fun k => sub32 k hx hy hc, ?_, by omega, ?_, ?_⟩ <;> split <;> omega
theorem less_l1 (d : List Int) (t : Int) (hd : U d) (ht : 0 <= t /\ t < 4294967296) (at_ : Nat) (hat : at_ + d.length < 1073741824) (s n z : Int) (q : List Int) :
  ∀ (e j : Nat) (o : List Int) (b c V : Int), j <= d.length -> d.length - j = e -> U o -> at_ + d.length < o.length -> 0 <= b /\ b <= 1 -> 0 <= c /\ c < 4294967296 -> val o = V - pw at_ * (t * val (d.take j)) + pw (at_ + j) * (c + b) ->
   ∃ o' b' c', U o' /\ o'.length = o.length /\ (0 <= b' /\ b' <= 1) /\ (0 <= c' /\ c' < 4294967296) /\ (∀ p, at_ + d.length <= p -> o'.getD p 0 = o.getD p 0) /\ val o' = V - pw at_ * (t * val d) + pw (at_ + d.length) * (c' + b') /\
    ∀ k m, e < m -> nat_Div_l1 k m ((s, d, (), (), (at_ : Int), t, n, z, (), d, t, (at_ : Int), b, c, d, (d.length : Int), (j : Int), ()), (o, q, ())) = some (Sum.inl ((s, d, (), (), (at_ : Int), t, n, z, (), d, (at_ : Int), b', c', ()), (o', q, ()))) := by
 intro e
 induction e with
 | zero =>
  intro j o b c V hj he ho hol hb hc hv
  obtain rfl : j = d.length := by omega
  rw [List.take_length] at hv
  have e : ¬ (d.length : Int) < (d.length : Int) := by omega
  refine ⟨o, b, c, ho, rfl, hb, hc, fun _ _ => rfl, hv, fun k m hm => ?_⟩
  obtain ⟨m, rfl⟩ : ∃ i, m = i + 1 := ⟨m - 1, by omega⟩
  simp only [nat_Div_l1, cond_f e]
 | succ e ih =>
  intro j o b c V hj he ho hol hb hc hv
  have hdi := U_getD hd j
  have hoi := U_getD ho (at_ + j)
  have hmb := mul_bound hdi ht
  obtain ⟨n', hn⟩ : ∃ n, n = d.getD j 0 * t + c := ⟨_, rfl⟩
  obtain ⟨r', b', e0, e1, hr, hb'⟩ := sub32' hoi (show 0 <= n' % 4294967296 /\ n' % 4294967296 < 4294967296 by omega) hb
  obtain ⟨o', b2, c2, h1, h2, h3, h3', h4, h5, h6⟩ := ih (j + 1) (o.set (at_ + j) r') b' (n' / 4294967296) V (by omega) (by omega) (U_set ho _ hr.1 hr.2) (by simpa using hol) hb' (by omega)
   (by
    rw [val_set (by omega), hv, val_take_succ', show at_ + (j + 1) = (at_ + j) + 1 by omega, pw_succ, pw_add]
    exact step_less e1 (Int.emod_add_mul_ediv n' 4294967296) hn)
  refine ⟨o', b2, c2, h1, by simpa using h2, h3, h3', fun p hp => (h4 p hp).trans (getD_set_ne (by omega) _), h5, fun k m hm => ?_⟩
  obtain ⟨m, rfl⟩ : ∃ i, m = i + 1 := ⟨m - 1, by omega⟩
  have e : (j : Int) < (d.length : Int) := by omega
  have w1 : IntKind.u64.wrap (d.getD j 0) = d.getD j 0 := u64w hdi.1 (by omega)
  have w2 : IntKind.u64.wrap t = t := u64w ht.1 (by omega)
  have w3 : IntKind.u64.wrap (d.getD j 0 * t) = d.getD j 0 * t := u64w hmb.1 (by omega)
  have w4 : IntKind.u64.wrap (d.getD j 0 * t + c) = n' := by rw [<- hn]; exact u64w (by omega) (by omega)
  have w5 : IntKind.u32.wrap n' = n' % 4294967296 := by rw [IntKind.wrap_u32]
  simp only [nat_Div_l1, cond_t e, if_pos (Int.natCast_nonneg j), Int.toNat_natCast, gd (show j < d.length by omega), Option.bind_some, wad (show at_ + j < 4611686018427387904 by omega), if_pos (Int.natCast_nonneg (at_ + j)), gd (show at_ + j < o.length by omega), w1, w2, w3, w4, w5, e0, shr32, wsu (show j < 4611686018427387904 by omega)]
  exact h6 k m (by omega)
theorem more_l2 (d : List Int) (hd : U d) (at_ : Nat) (hat : at_ + d.length < 1073741824) (s t n z : Int) (q : List Int) :
  ∀ (e j : Nat) (o : List Int) (c V : Int), j <= d.length -> d.length - j = e -> U o -> at_ + d.length < o.length -> 0 <= c /\ c <= 1 -> val o = V + pw at_ * val (d.take j) - pw (at_ + j) * c ->
   ∃ o' c', U o' /\ o'.length = o.length /\ (0 <= c' /\ c' <= 1) /\ (∀ p, at_ + d.length <= p -> o'.getD p 0 = o.getD p 0) /\ val o' = V + pw at_ * val d - pw (at_ + d.length) * c' /\
    ∀ k m, e < m -> nat_Div_l2 k m ((s, d, (), (), (at_ : Int), t, n, z, (), d, (at_ : Int), c, d, (d.length : Int), (j : Int), ()), (o, q, ())) = some (Sum.inl ((s, d, (), (), (at_ : Int), t, n, z, (), d, (at_ : Int), c', ()), (o', q, ()))) := by
 intro e
 induction e with
 | zero =>
  intro j o c V hj he ho hol hc hv
  obtain rfl : j = d.length := by omega
  rw [List.take_length] at hv
  have e : ¬ (d.length : Int) < (d.length : Int) := by omega
  refine ⟨o, c, ho, rfl, hc, fun _ _ => rfl, hv, fun k m hm => ?_⟩
  obtain ⟨m, rfl⟩ : ∃ i, m = i + 1 := ⟨m - 1, by omega⟩
  simp only [nat_Div_l2, cond_f e]
 | succ e ih =>
  intro j o c V hj he ho hol hc hv
  have hdi := U_getD hd j
  have hoi := U_getD ho (at_ + j)
  obtain ⟨o', c2, h1, h2, h3, h4, h5, h6⟩ := ih (j + 1) (o.set (at_ + j) ((o.getD (at_ + j) 0 + d.getD j 0 + c) % 4294967296)) ((o.getD (at_ + j) 0 + d.getD j 0 + c) / 4294967296) V (by omega) (by omega) (U_set ho _ (by omega) (by omega)) (by simpa using hol) (by omega)
   (by
    rw [val_set (by omega), hv, val_take_succ', show at_ + (j + 1) = (at_ + j) + 1 by omega, pw_succ, pw_add]
    exact step_more (n := 0) (Int.emod_add_mul_ediv _ 4294967296))
  refine ⟨o', c2, h1, by simpa using h2, h3, fun p hp => (h4 p hp).trans (getD_set_ne (by omega) _), h5, fun k m hm => ?_⟩
  obtain ⟨m, rfl⟩ : ∃ i, m = i + 1 := ⟨m - 1, by omega⟩
  have e : (j : Int) < (d.length : Int) := by omega
  simp only [nat_Div_l2, cond_t e, if_pos (Int.natCast_nonneg j), Int.toNat_natCast, gd (show j < d.length by omega), Option.bind_some, wad (show at_ + j < 4611686018427387904 by omega), if_pos (Int.natCast_nonneg (at_ + j)), gd (show at_ + j < o.length by omega), add32 k hoi hdi hc, wsu (show j < 4611686018427387904 by omega)]
  exact h6 k m (by omega)
theorem div_step (r d : List Int) (hr : U r) (hd : U d) (at_ : Nat) (hn : 2 <= d.length) (hlast : 2147483648 <= d.getD (d.length - 1) 0) (hlen : at_ + d.length < r.length) (hb : r.length <= 1073741824) (hlt : val r < val d * pw (at_ + 1)) (s : Int) (i : Nat) (q : List Int) (hq : q.length = i + at_ + 1) (hqb : q.length <= 1073741824) :
  ∃ o' x K, U o' /\ o'.length = r.length /\ val o' < val d * pw at_ /\ (0 <= x /\ x < 4294967296) /\ val o' = val r - pw at_ * (x * val d) /\
   ∀ k, K <= k -> ∀ m, nat_Div_l0 k (m + 1) ((s, d, (), (), (q.length : Int), (i : Int), ()), (r, q, ())) = nat_Div_l0 k m ((s, d, (), (), (q.length : Int), ((i + 1 : Nat) : Int), ()), (o', q.set at_ x, ())) := by
 have r0 := val_nonneg hr
 have d0 := val_nonneg hd
 have hpa := pw_pos at_
 have hpq := pw_pos (d.length - 2)
 have hdl := val_lt hd
 have hdpos : 0 < val d := by
  by_cases h0 : val d = 0
  ·rw [h0, Int.zero_mul] at hlt; omega
  ·omega
 have hltR : val r < pw at_ * val d * 4294967296 := by
  rw [pw_succ] at hlt
  have e : val d * (4294967296 * pw at_) = pw at_ * val d * 4294967296 := by grind
  omega
 have htop : val r < pw (at_ + d.length + 1) := by
  have h1 := Int.mul_le_mul_of_nonneg_right (show val d <= pw d.length by omega) (show 0 <= pw (at_ + 1) by have := pw_pos (at_ + 1); omega)
  rw [<- pw_add, show d.length + (at_ + 1) = at_ + d.length + 1 by omega] at h1
  omega
 have hz := zeros_above hr htop
 have hzd : val (r.drop (at_ + d.length + 1)) = 0 := val_zero_of (fun q => by rw [getD_drop]; exact hz _ (by omega))
 have hX : (r.getD (at_ + d.length) 0 * 4294967296 + r.getD (at_ + d.length - 1) 0) * 4294967296 + r.getD (at_ + d.length - 2) 0 = val r / (pw at_ * pw (d.length - 2)) := by
  have h1 := val_div hr (i := at_ + d.length - 2) (by omega)
  rw [val_drop' r (at_ + d.length - 2), show at_ + d.length - 2 + 1 = at_ + d.length - 1 by omega, val_drop' r (at_ + d.length - 1), show at_ + d.length - 1 + 1 = at_ + d.length by omega, val_drop' r (at_ + d.length), hzd] at h1
  rw [<- pw_add, show at_ + (d.length - 2) = at_ + d.length - 2 by omega, h1]
  omega
 have hV : d.getD (d.length - 1) 0 * 4294967296 + d.getD (d.length - 2) 0 = val d / pw (d.length - 2) := by
  have h1 := val_div hd (i := d.length - 2) (by omega)
  rw [val_drop' d (d.length - 2), show d.length - 2 + 1 = d.length - 1 by omega, val_drop' d (d.length - 1), show d.length - 1 + 1 = d.length by omega, List.drop_length, val_nil] at h1
  rw [h1]
  omega
 have u2 := U_getD hr (at_ + d.length)
 have u1 := U_getD hr (at_ + d.length - 1)
 have u0 := U_getD hr (at_ + d.length - 2)
 have v1 := U_getD hd (d.length - 1)
 have v0 := U_getD hd (d.length - 2)
 have h2 : r.getD (at_ + d.length) 0 <= d.getD (d.length - 1) 0 := by
  have h1 := val_div hr (i := at_ + d.length) (by omega)
  rw [val_drop' r (at_ + d.length), hzd] at h1
  have h3 := val_div hd (i := d.length - 1) (by omega)
  rw [val_drop' d (d.length - 1), show d.length - 1 + 1 = d.length by omega, List.drop_length, val_nil] at h3
  have hp := pw_pos (d.length - 1)
  have h4 := Int.emod_lt_of_pos (val d) hp
  have h5 := Int.mul_ediv_add_emod (val d) (pw (d.length - 1))
  have h6 : val r / pw (at_ + d.length) < d.getD (d.length - 1) 0 + 1 := by
   rw [Int.ediv_lt_iff_lt_mul (pw_pos _)]
   have e : pw (at_ + d.length) = pw (at_ + 1) * pw (d.length - 1) := by rw [<- pw_add]; congr 1; omega
   have h7 := Int.mul_le_mul_of_nonneg_left (show val d <= pw (d.length - 1) * (d.getD (d.length - 1) 0 + 1) by rw [Int.mul_add, Int.mul_one]; rw [h3, Int.mul_zero, Int.add_zero] at h5; omega) (show 0 <= pw (at_ + 1) by have := pw_pos (at_ + 1); omega)
   rw [e]
   have e2 : pw (at_ + 1) * val d = val d * pw (at_ + 1) := Int.mul_comm _ _
   have e3 : (d.getD (d.length - 1) 0 + 1) * (pw (at_ + 1) * pw (d.length - 1)) = pw (at_ + 1) * (pw (d.length - 1) * (d.getD (d.length - 1) 0 + 1)) := by grind
   omega
  omega
 obtain ⟨hg0, hg1, hg⟩ := gss_good hpa hpq hdpos r0 hltR hV (show 4294967296 <= d.getD (d.length - 1) 0 * 4294967296 + d.getD (d.length - 2) 0 by omega) hX
 obtain ⟨t, ht⟩ : ∃ t, t = gss ((r.getD (at_ + d.length) 0 * 4294967296 + r.getD (at_ + d.length - 1) 0) * 4294967296 + r.getD (at_ + d.length - 2) 0) (d.getD (d.length - 1) 0 * 4294967296 + d.getD (d.length - 2) 0) := ⟨_, rfl⟩
 obtain ⟨K, hguess⟩ := guess_ev _ _ _ _ _ u2.1 u1 u0 ⟨hlast, v1.2⟩ v0 h2
 rw [<- ht] at hguess hg0 hg1 hg
 clear ht hX hV h2
 have eq1 : (i : Int) < (q.length : Int) := by omega
 have wat : IntKind.i64.wrap (IntKind.i64.wrap ((q.length : Int) - 1) - (i : Int)) = (at_ : Int) := wlast (by omega) (by omega)
 have wtop : IntKind.i64.wrap ((at_ : Int) + (d.length : Int)) = ((at_ + d.length : Nat) : Int) := wad (by omega)
 have wtop1 : IntKind.i64.wrap (((at_ + d.length : Nat) : Int) - 1) = ((at_ + d.length - 1 : Nat) : Int) := by rw [w64 (by omega) (by omega)]; omega
 have wtop2 : IntKind.i64.wrap (((at_ + d.length : Nat) : Int) - 2) = ((at_ + d.length - 2 : Nat) : Int) := by rw [w64 (by omega) (by omega)]; omega
 have wd1 : IntKind.i64.wrap ((d.length : Int) - 1) = ((d.length - 1 : Nat) : Int) := by rw [w64 (by omega) (by omega)]; omega
 have wd2 : IntKind.i64.wrap ((d.length : Int) - 2) = ((d.length - 2 : Nat) : Int) := by rw [w64 (by omega) (by omega)]; omega
 have hcomm : val d * pw at_ = pw at_ * val d := Int.mul_comm _ _
 have hPDle : pw at_ * val d < pw (at_ + d.length + 1) := by
  have h1 := Int.mul_lt_mul_of_pos_left hdl hpa
  rw [<- pw_add] at h1
  have h3 := pw_mono (show at_ + d.length <= at_ + d.length + 1 by omega)
  omega
 obtain ⟨o1, b1, c1, p1, p2, p3, p4, p5, p6, p7⟩ := less_l1 d t hd (by omega) at_ (by omega) s (q.length : Int) (i : Int) q d.length 0 r 0 0 (val r) (by omega) rfl hr hlen (by omega) (by omega) (by simp)
 have hoi := U_getD p1 (at_ + d.length)
 have hri := U_getD hr (at_ + d.length)
 obtain ⟨x1, b2, e0, e1, hx1, hb2⟩ := sub32' hoi p4 p3
 have ho2 := U_set p1 (at_ + d.length) hx1.1 hx1.2
 have hov : val (o1.set (at_ + d.length) x1) = val r - pw at_ * (t * val d) + pw (at_ + d.length + 1) * b2 := by
  rw [val_set (by omega), p6, pw_succ]
  have h1 : pw (at_ + d.length) * (x1 - 4294967296 * b2) = pw (at_ + d.length) * (o1.getD (at_ + d.length) 0 - c1 - b1) := by rw [e1]
  grind
 have ho0 := val_nonneg ho2
 have hoB : val (o1.set (at_ + d.length) x1) < pw (at_ + d.length + 1) := lt_of_zeros ho2 (fun p hp => by rw [getD_set_ne (by omega), p5 p (by omega)]; exact hz p hp)
 have hgd : ∀ (m : Nat), m < d.length -> d[m]? = some (d.getD m 0) := fun m hm => gd hm
 have hgr : ∀ (m : Nat), m < r.length -> r[m]? = some (r.getD m 0) := fun m hm => gd hm
 rcases (show b2 = 0 \/ b2 = 1 by omega) with rfl | rfl
 ·
  rw [Int.mul_zero, Int.add_zero] at hov
  refine ⟨o1.set (at_ + d.length) x1, t, K + d.length + 2, ho2, by simpa using p2, by rcases hg with hg | hg <;> omega, by omega, hov, fun k hk m => ?_⟩
  have f1 := hguess k (by omega)
  have f2 := p7 k k (by omega)
  rw [show ((0 : Nat) : Int) = 0 from rfl] at f2
  simp only [nat_Div_l0, cond_t eq1, wat, wtop, if_pos (Int.natCast_nonneg (at_ + d.length)), Int.toNat_natCast, hgr (at_ + d.length) (by omega), Option.bind_some, wtop1, if_pos (Int.natCast_nonneg (at_ + d.length - 1)), hgr (at_ + d.length - 1) (by omega), wtop2, if_pos (Int.natCast_nonneg (at_ + d.length - 2)), hgr (at_ + d.length - 2) (by omega), wd1, if_pos (Int.natCast_nonneg (d.length - 1)), hgd (d.length - 1) (by omega), wd2, if_pos (Int.natCast_nonneg (d.length - 2)), hgd (d.length - 2) (by omega), f1]
  erw [f2]
  simp only [Option.bind_some, Sum.elim_inl, wtop, if_pos (Int.natCast_nonneg (at_ + d.length)), Int.toNat_natCast, gd (show at_ + d.length < o1.length by omega), u32w p4.1 p4.2, e0, show ((0 : Int) != 0) = false from rfl, cond_false, if_pos (Int.natCast_nonneg at_), gd (show at_ < q.length by omega), wsu (show i < 4611686018427387904 by omega)]
 ·rw [Int.mul_one] at hov
  obtain ⟨o3, c3, m1, m2, m3, m4, m5, m6⟩ := more_l2 d hd at_ (by omega) s (IntKind.u32.wrap (t - 1)) (q.length : Int) (i : Int) q d.length 0 (o1.set (at_ + d.length) x1) 0 (val (o1.set (at_ + d.length) x1)) (by omega) rfl ho2 (by simp; omega) (by omega) (by simp)
  have hl3 : o3.length = r.length := by rw [m2]; simpa using p2
  have ho3i := U_getD m1 (at_ + d.length)
  obtain ⟨y, hy⟩ : ∃ y, y = o3.getD (at_ + d.length) 0 + c3 := ⟨_, rfl⟩
  have ho4 : U (o3.set (at_ + d.length) (y % 4294967296)) := U_set m1 _ (by omega) (by omega)
  have hov4 : val (o3.set (at_ + d.length) (y % 4294967296)) = val (o1.set (at_ + d.length) x1) + pw at_ * val d - pw (at_ + d.length + 1) * (y / 4294967296) := by
   rw [val_set (by omega), m5, pw_succ]
   have h1 : pw (at_ + d.length) * (y % 4294967296 + 4294967296 * (y / 4294967296)) = pw (at_ + d.length) * (o3.getD (at_ + d.length) 0 + c3) := by rw [Int.emod_add_mul_ediv, hy]
   grind
  have ho0' := val_nonneg ho4
  have hoB' : val (o3.set (at_ + d.length) (y % 4294967296)) < pw (at_ + d.length + 1) := lt_of_zeros ho4 (fun p hp => by rw [getD_set_ne (by omega), m4 p (by omega), getD_set_ne (by omega), p5 p (by omega)]; exact hz p hp)
  have et : pw at_ * ((t - 1) * val d) = pw at_ * (t * val d) - pw at_ * val d := by grind
  have hneg : val r - pw at_ * (t * val d) < 0 := by omega
  rcases hg with hg | ⟨hg1, hg2, hg3, hg4⟩
  ·omega
  ·obtain ⟨z, hzz⟩ : ∃ z, z = y / 4294967296 := ⟨_, rfl⟩
   have hz1 : z = 0 \/ z = 1 := by omega
   rw [<- hzz] at hov4
   have hb21 : z = 1 := by
    rcases hz1 with rfl | rfl
    ·rw [Int.mul_zero] at hov4
     omega
    ·rfl
   rw [hb21, Int.mul_one] at hov4
   refine ⟨o3.set (at_ + d.length) (y % 4294967296), t - 1, K + d.length + 2, ho4, by simpa using hl3, by omega, by omega, by omega, fun k hk m => ?_⟩
   have f1 := hguess k (by omega)
   have f2 := p7 k k (by omega)
   have f3 := m6 k k (by omega)
   rw [show ((0 : Nat) : Int) = 0 from rfl] at f2 f3
   simp only [nat_Div_l0, cond_t eq1, wat, wtop, if_pos (Int.natCast_nonneg (at_ + d.length)), Int.toNat_natCast, hgr (at_ + d.length) (by omega), Option.bind_some, wtop1, if_pos (Int.natCast_nonneg (at_ + d.length - 1)), hgr (at_ + d.length - 1) (by omega), wtop2, if_pos (Int.natCast_nonneg (at_ + d.length - 2)), hgr (at_ + d.length - 2) (by omega), wd1, if_pos (Int.natCast_nonneg (d.length - 1)), hgd (d.length - 1) (by omega), wd2, if_pos (Int.natCast_nonneg (d.length - 2)), hgd (d.length - 2) (by omega), f1]
   erw [f2]
   simp only [Option.bind_some, Sum.elim_inl, wtop, if_pos (Int.natCast_nonneg (at_ + d.length)), Int.toNat_natCast, gd (show at_ + d.length < o1.length by omega), u32w p4.1 p4.2, e0, show ((1 : Int) != 0) = true from rfl, cond_true]
   erw [f3]
   simp only [Option.bind_some, Sum.elim_inl, wtop, if_pos (Int.natCast_nonneg (at_ + d.length)), Int.toNat_natCast, gd (show at_ + d.length < o3.length by omega), if_pos (Int.natCast_nonneg at_), gd (show at_ < q.length by omega), wsu (show i < 4611686018427387904 by omega), IntKind.wrap_u32, <- hy, show (t - 1) % 4294967296 = t - 1 by omega]
theorem div_l0 (d : List Int) (hd : U d) (hn : 2 <= d.length) (hlast : 2147483648 <= d.getD (d.length - 1) 0) (s : Int) :
  ∀ (e i : Nat) (r q : List Int), i <= q.length -> q.length - i = e -> U r -> U q -> q.length + d.length = r.length -> r.length <= 1073741824 -> (∀ j, j < e -> q.getD j 0 = 0) -> val r < val d * pw e ->
   ∃ r' q' K, U r' /\ U q' /\ q'.length = q.length /\ r'.length = r.length /\ val r' < val d /\ val r + val d * val q = val d * val q' + val r' /\
    ∀ k, K <= k -> ∀ m, e < m -> nat_Div_l0 k m ((s, d, (), (), (q.length : Int), (i : Int), ()), (r, q, ())) = some (Sum.inl ((s, (), (), ()), (r', q', ()))) := by
 intro e
 induction e with
 | zero =>
  intro i r q hi he hr hq hlen hb hz hlt
  rw [pw_zero, Int.mul_one] at hlt
  refine ⟨r, q, 0, hr, hq, rfl, rfl, hlt, by omega, fun k _ m hm => ?_⟩
  obtain ⟨m, rfl⟩ : ∃ i, m = i + 1 := ⟨m - 1, by omega⟩
  have e : ¬ (i : Int) < (q.length : Int) := by omega
  simp only [nat_Div_l0, cond_f e]
 | succ e ih =>
  intro i r q hi he hr hq hlen hb hz hlt
  obtain ⟨o', x, K1, h1, h2, h3, h4, h5, h6⟩ := div_step r d hr hd e hn hlast (by omega) hb hlt s i q (by omega) (by omega)
  have hqm : q.getD e 0 = 0 := hz e (by omega)
  have hvq : val (q.set e x) = val q + pw e * x := by rw [val_set (by omega), hqm, Int.sub_zero]
  obtain ⟨r', q', K2, g1, g2, g3, g4, g5, g6, g7⟩ := ih (i + 1) o' (q.set e x) (by rw [List.length_set]; omega) (by rw [List.length_set]; omega) h1 (U_set hq _ h4.1 h4.2) (by rw [List.length_set]; omega) (by omega)
   (fun j hj => by rw [getD_set_ne (by omega)]; exact hz j (by omega)) h3
  rw [List.length_set] at g3 g7
  refine ⟨r', q', K1 + K2, g1, g2, g3, by omega, g5, ?_, fun k hk m hm => ?_⟩
  ·rw [<- g6, hvq, h5]
   grind
  ·obtain ⟨m, rfl⟩ : ∃ i, m = i + 1 := ⟨m - 1, by omega⟩
   rw [h6 k (by omega)]
   exact g7 k (by omega) m (by omega)
theorem dshl_l3 (a1 b1 : List Int) (c1 : Int) (d1 : List Int) (a : List Int) (ha : U a) (L s k : Nat) (hs : s < 32) (hl : a.length + L + 1 <= 1073741824) :
  ∀ (d m i : Nat) (o : List Int), d < m -> i <= a.length -> a.length - i = d -> U o -> o.length = a.length + L + 1 -> o.getD (i + L) 0 < 2 ^ s -> (∀ q, i + L < q -> o.getD q 0 = 0) -> val o = pw L * 2 ^ s * val (a.take i) ->
   ∃ o', U o' /\ o'.length = a.length + L + 1 /\ val o' = val a * 2 ^ (32 * L + s) /\ nat_Div_l3 k m ((a1, b1, c1, d1, (L : Int), (s : Int), (), a, (a.length : Int), (i : Int), ()), (o, ())) = some (Sum.inl ((a1, b1, c1, d1, (), ()), (o', ()))) := by
 intro d
 induction d with
 | zero =>
  intro m i o hm hi hd ho hol hsm hz hv
  obtain ⟨m, rfl⟩ : ∃ i, m = i + 1 := ⟨m - 1, by omega⟩
  obtain rfl : i = a.length := by omega
  rw [List.take_length, p2_limb, <- p2_add, Int.mul_comm] at hv
  refine ⟨o, ho, hol, hv, ?_⟩
  have e : ¬ (a.length : Int) < (a.length : Int) := by omega
  simp only [nat_Div_l3, cond_f e]
 | succ d ih =>
  intro m i o hm hi hd ho hol hsm hz hv
  obtain ⟨m, rfl⟩ : ∃ i, m = i + 1 := ⟨m - 1, by omega⟩
  have hai := U_getD ha i
  have hoi := U_getD ho (i + L)
  obtain ⟨hy0, hy1⟩ := mulp_bound hai.1 (show s <= 32 by omega) hai.2
  have hq := div_p2_lt (show s <= 32 by omega) hai.1 hai.2
  have hmm := mod_mod_p2 (x := a.getD i 0) (show s <= 32 by omega)
  obtain ⟨y, hy⟩ : ∃ y, y = a.getD i 0 * 2 ^ s := ⟨_, rfl⟩
  rw [<- hy] at hy0 hy1 hq hmm
  have hor := or_low (show s <= 32 by omega) hoi.1 hsm (show 0 <= y % 4294967296 by omega) (by omega) hmm
  have h32 := p2_mono (show s <= 32 by omega)
  have e32 : (2 : Int) ^ 32 = 4294967296 := rfl
  have hrange : o.getD (i + L) 0 + y % 4294967296 < 4294967296 := by
   have e : (4294967296 : Int) = 2 ^ s * 2 ^ (32 - s) := by rw [<- p2_add, show s + (32 - s) = 32 by omega]; rfl
   have hp := p2_pos s
   have hd1 := Int.mul_ediv_add_emod (y % 4294967296) (2 ^ s)
   rw [hmm] at hd1
   have hlt : 2 ^ s * (y % 4294967296 / 2 ^ s) < 2 ^ s * 2 ^ (32 - s) := by omega
   have hlt2 := Int.lt_of_mul_lt_mul_left hlt (by omega)
   have := Int.mul_le_mul_of_nonneg_left (show y % 4294967296 / 2 ^ s + 1 <= 2 ^ (32 - s) by omega) (show (0 : Int) <= 2 ^ s by omega)
   rw [Int.mul_add] at this
   omega
  have hz1 : (o.set (i + L) (o.getD (i + L) 0 + y % 4294967296)).getD (i + L + 1) 0 = 0 := by rw [getD_set_ne (by omega)]; exact hz _ (by omega)
  have hor2 := or_zero (m := y / 4294967296) (by omega) (by omega)
  have hqm : y / 4294967296 % 4294967296 = y / 4294967296 := by omega
  obtain ⟨o', r1, r2, r3, r4⟩ := ih m (i + 1) ((o.set (i + L) (o.getD (i + L) 0 + y % 4294967296)).set (i + L + 1) (y / 4294967296)) (by omega) (by omega) (by omega)
   (U_set (U_set ho _ (by omega) hrange) _ (by omega) (by omega)) (by simpa using hol)
   (by rw [show i + 1 + L = i + L + 1 by omega, getD_set_self (by simp; omega)]; exact hq)
   (fun q hq => by rw [getD_set_ne (by omega), getD_set_ne (by omega)]; exact hz _ (by omega))
   (by
    rw [val_set (by simp; omega), hz1, val_set (by omega), val_take_succ', pw_succ]
    rw [show o.getD (i + L) 0 + y % 4294967296 - o.getD (i + L) 0 = y % 4294967296 by omega, Int.sub_zero]
    exact step_shl (Int.emod_add_mul_ediv y 4294967296) hy (by rw [Nat.add_comm, pw_add]) hv)
  refine ⟨o', r1, r2, r3, ?_⟩
  have e : (i : Int) < (a.length : Int) := by omega
  have hs0 : ¬ (s : Int) < 0 := by omega
  have w1 : IntKind.u64.wrap (a.getD i 0) = a.getD i 0 := u64w hai.1 (by omega)
  have w2 : IntKind.u64.wrap (a.getD i 0 * 2 ^ min (Int.toNat (s : Int)) IntKind.u64.bits) = y := by rw [shlR (by omega), <- hy]; omega
  have w3 : IntKind.u32.wrap y = y % 4294967296 := by rw [IntKind.wrap_u32]
  have w4 : IntKind.u32.wrap (y / 4294967296) = y / 4294967296 := by rw [IntKind.wrap_u32, hqm]
  simp only [nat_Div_l3, cond_t e, if_pos (Int.natCast_nonneg i), wad (show i + L < 4611686018427387904 by omega), wsu (show i + L < 4611686018427387904 by omega), wsu (show i < 4611686018427387904 by omega), if_neg hs0, if_pos (Int.natCast_nonneg (i + L)), if_pos (Int.natCast_nonneg (i + L + 1)), Int.toNat_natCast (i + L), Int.toNat_natCast (i + L + 1), Int.toNat_natCast i, gd (show i < a.length by omega), gd (show i + L < o.length by omega), Option.bind_some, w1, w2, w3, orR32, hor, shr32, w4]
  rw [gd (show i + L + 1 < (o.set (i + L) (o.getD (i + L) 0 + y % 4294967296)).length by simp; omega)]
  simp only [Option.bind_some, hz1, hor2]
  exact r4
theorem dcut_l4 (a1 b1 : List Int) (c1 : Int) (d1 : List Int) (k : Nat) : ∀ (n : Nat) (l : List Int) (m : Nat), l.length = n -> n < m -> U l -> n <= 1073741824 -> nat_Div_l4 k m ((a1, b1, c1, d1, (), ()), (l, ())) = some (Sum.inl ((a1, b1, c1, d1, (), ()), (lim (val l), ()))) := by
 intro n
 induction n with
 | zero =>
  intro l m hn hm h hb
  obtain ⟨m, rfl⟩ : ∃ i, m = i + 1 := ⟨m - 1, by omega⟩
  have : l = [] := List.eq_nil_of_length_eq_zero hn
  subst this
  have e : ¬ ((([] : List Int).length : Nat) : Int) > 0 := by decide
  simp only [nat_Div_l4, cond_f e]
  rw [val_nil, show lim 0 = [] from limN_zero]
 | succ n ih =>
  intro l m hn hm h hb
  obtain ⟨m, rfl⟩ : ∃ i, m = i + 1 := ⟨m - 1, by omega⟩
  have e : (l.length : Int) > 0 := by omega
  have hw : IntKind.i64.wrap ((l.length : Int) - 1) = ((l.length - 1 : Nat) : Int) := by rw [w64 (by omega) (by omega)]; omega
  have hc : (0 : Int) <= ((l.length - 1 : Nat) : Int) /\ ((l.length - 1 : Nat) : Int) <= (l.length : Int) := ⟨by omega, by omega⟩
  simp only [nat_Div_l4, cond_t e, hw, if_pos (Int.natCast_nonneg (l.length - 1)), Int.toNat_natCast, gd (show l.length - 1 < l.length by omega), Option.bind_some]
  by_cases hz : l.getD (l.length - 1) 0 = 0
  ·rw [beq_t hz, cond_true, if_pos hc]
   rw [ih (l.take (l.length - 1)) m (by rw [List.length_take]; omega) (by omega) (U_take h _) (by omega), val_take_last (by omega) hz]
  ·rw [beq_f hz, cond_false, lim_of_norm h (fun _ => hz)]
theorem lz32 (k : Nat) {x : Int} (h0 : 0 <= x) (h1 : x < 4294967296) : bits_LeadingZeros32 k x = some (32 - bl x, ()) := by
 have h2 := bl_le (n := x) (m := 32) h1
 have h3 := bl_nonneg x
 simp only [bits_LeadingZeros32, len32 k h0 h1, Option.bind_some]
 rw [w64 (by omega) (by omega)]
theorem getD_replicate0 (n j : Nat) : (List.replicate n (0 : Int)).getD j 0 = 0 := by
 rw [List.getD_eq_getElem?_getD, List.getElem?_replicate]
 split <;> rfl
theorem div_ev (a b : List Int) (ha : U a) (hb : U b) (hla : a.length <= 536870000) (hlb : b.length <= 536870000) :
  ∃ K, ∀ k, K <= k -> nat_Div k a b = some (if val b = 0 then ([], [], false, ()) else (lim (val a / val b), lim (val a % val b), true, ())) := by
 have na := val_nonneg ha
 have nb := val_nonneg hb
 have la := lim_len na a.length (val_lt ha)
 have lb := lim_len nb b.length (val_lt hb)
 obtain ⟨K1, h1⟩ := cut_ev a ha (by omega)
 obtain ⟨K2, h2⟩ := cut_ev b hb (by omega)
 by_cases c0 : val b = 0
 ·refine ⟨K1 + K2, fun k hk => ?_⟩
  have hz : ((lim (val b)).length : Int) = 0 := by rw [c0, lim_zero]; rfl
  simp only [nat_Div]
  rw [h1 k (by omega), Option.bind_some, h2 k (by omega), Option.bind_some, beq_t hz, cond_true, if_pos c0]
 ·have hbl : 0 < (lim (val b)).length := by
   by_cases hq : (lim (val b)).length = 0
   ·exact absurd ((lim_nil_iff nb).1 hq) c0
   ·omega
  have hz : ¬ ((lim (val b)).length : Int) = 0 := by omega
  obtain ⟨K3, h3⟩ := cmp_ev (lim (val a)) (lim (val b)) (U_lim na) (U_lim nb) (by omega) (by omega)
  rw [val_lim na, val_lim nb] at h3
  by_cases c1 : val a < val b
  ·refine ⟨K1 + K2 + K3, fun k hk => ?_⟩
   simp only [nat_Div]
   rw [h1 k (by omega), Option.bind_some, h2 k (by omega), Option.bind_some, beq_f hz, cond_false, h3 k (by omega), Option.bind_some, sgz_neg (by omega), cond_t (show (-1 : Int) < 0 by decide)]
   dsimp only
   rw [if_pos (by omega), if_neg c0, Int.ediv_eq_zero_of_lt na c1, Int.emod_eq_of_lt na c1, lim_zero]
  ·have hs : ¬ sgz (val a - val b) < 0 := by unfold sgz; split <;> (try split) <;> omega
   by_cases c2 : (lim (val b)).length = 1
   ·have hv : val b = (lim (val b)).getD 0 0 := by
     have e := val_lim nb
     rw [val_full (n := 0) c2, List.take_zero, val_nil, pw_zero] at e
     omega
    have hu := U_getD (U_lim nb) 0
    obtain ⟨K4, h4⟩ := short_ev (lim (val a)) ((lim (val b)).getD 0 0) (U_lim na) (by omega) hu.2 (by omega)
    rw [val_lim na, <- hv] at h4
    have c2' : ((lim (val b)).length : Int) = 1 := by omega
    refine ⟨K1 + K2 + K3 + K4, fun k hk => ?_⟩
    simp only [nat_Div]
    rw [h1 k (by omega), Option.bind_some, h2 k (by omega), Option.bind_some, beq_f hz, cond_false, h3 k (by omega), Option.bind_some, cond_f hs, beq_t c2', cond_true, if_pos (Nat.le_refl 0)]
    dsimp only
    rw [Int.toNat_zero, gd hbl, Option.bind_some, <- hv, h4 k (by omega), Option.bind_some, if_neg c0]
   ·
    have c2' : ¬ ((lim (val b)).length : Int) = 1 := by omega
    have hbpos : 0 < val b := by omega
    obtain ⟨n, hn⟩ : ∃ n, (lim (val b)).length = n + 1 := ⟨(lim (val b)).length - 1, by omega⟩
    have htop := val_top hbpos
    have hlst := lim_last hbpos
    have hu := U_getD (U_lim nb) n
    rw [hn, Nat.add_sub_cancel] at htop hlst
    obtain ⟨x, hx⟩ : ∃ x, x = (lim (val b)).getD n 0 := ⟨_, rfl⟩
    rw [<- hx] at htop hlst hu
    have hbl1 := bl_ge (n := x) (by omega)
    have hbl2 := bl_lt (n := x) (by omega)
    have hbl3 := bl_le (n := x) (m := 32) hu.2
    have hbl4 := bl_pos (n := x) (by omega)
    obtain ⟨s, hsd⟩ : ∃ s : Nat, 32 - bl x = (s : Int) := ⟨(32 - bl x).toNat, by omega⟩
    have hs32 : s <= 31 := by omega
    have hps := p2_pos s
    have hpn := pw_pos n
    have hlow : pw n * 2147483648 <= val b * 2 ^ s := by
     have e1 : (2147483648 : Int) = 2 ^ (bl x - 1).toNat * 2 ^ s := by rw [<- p2_add, show (bl x - 1).toNat + s = 31 by omega]; rfl
     have h5 := Int.mul_ediv_add_emod (val b) (pw n)
     have h6 := Int.emod_nonneg (val b) (show pw n ≠ 0 by omega)
     rw [htop] at h5
     have h7 := Int.mul_le_mul_of_nonneg_left hbl1 (show 0 <= pw n by omega)
     have h8 := Int.mul_le_mul_of_nonneg_right (show pw n * 2 ^ (bl x - 1).toNat <= val b by omega) (show (0 : Int) <= 2 ^ s by omega)
     rw [e1, <- Int.mul_assoc]
     exact h8
    have hhigh : val b * 2 ^ s < pw (n + 1) := by
     have e1 : (4294967296 : Int) = 2 ^ (bl x).toNat * 2 ^ s := by rw [<- p2_add, show (bl x).toNat + s = 32 by omega]; rfl
     have h5 := Int.mul_ediv_add_emod (val b) (pw n)
     have h6 := Int.emod_lt_of_pos (val b) hpn
     rw [htop] at h5
     have h7 := Int.mul_le_mul_of_nonneg_left (show x + 1 <= 2 ^ (bl x).toNat by omega) (show 0 <= pw n by omega)
     rw [Int.mul_add, Int.mul_one] at h7
     have h8 := Int.mul_lt_mul_of_pos_right (show val b < pw n * 2 ^ (bl x).toNat by omega) hps
     rw [pw_succ, e1]
     have e2 : 2 ^ (bl x).toNat * 2 ^ s * pw n = pw n * 2 ^ (bl x).toNat * 2 ^ s := by grind
     rw [e2]
     exact h8
    have hd0 : 0 < val b * 2 ^ s := Int.mul_pos hbpos hps
    have hdl : (lim (val b * 2 ^ s)).length = n + 1 := by
     have l1 := lim_len (n := val b * 2 ^ s) (by omega) (n + 1) hhigh
     have l2 := lim_len_gt (n := val b * 2 ^ s) n (by omega)
     omega
    have hdtop := val_top hd0
    rw [hdl, Nat.add_sub_cancel] at hdtop
    have hdlast : 2147483648 <= (lim (val b * 2 ^ s)).getD n 0 := by
     rw [<- hdtop, Int.le_ediv_iff_mul_le hpn, Int.mul_comm]
     exact hlow
    have hal : n + 1 <= (lim (val a)).length := by
     have := lim_len_mono nb (show val b <= val a by omega)
     omega
    have hN : val a * 2 ^ s < pw ((lim (val a)).length + 1) := by
     have h5 := val_lt (U_lim na)
     rw [val_lim na] at h5
     have h6 := Int.mul_lt_mul_of_pos_right h5 hps
     have h7 := Int.mul_le_mul_of_nonneg_left (show (2 : Int) ^ s <= 4294967296 from p2_mono (show s <= 32 by omega)) (show 0 <= pw (lim (val a)).length by have := pw_pos (lim (val a)).length; omega)
     rw [pw_succ, Int.mul_comm 4294967296]
     omega
    have hN0 : 0 <= val a * 2 ^ s := Int.mul_nonneg na (by omega)
    have hNl := lim_len hN0 _ hN
    have hNl2 : (lim (val a)).length <= (lim (val a * 2 ^ s)).length := by
     have := Int.mul_le_mul_of_nonneg_left (show (1 : Int) <= 2 ^ s by omega) na
     exact lim_len_mono na (by omega)
    have hu0 : U (lim (val a * 2 ^ s) ++ [0, 0]) := U_append.2 ⟨U_lim hN0, by simp [U]⟩
    have hv0 : val (lim (val a * 2 ^ s) ++ [0, 0]) = val a * 2 ^ s := by
     rw [val_append, val_lim hN0]
     simp
    have hv1 : val ((lim (val a * 2 ^ s) ++ [0, 0]).take ((lim (val a)).length + 1)) = val a * 2 ^ s := by rw [val_take_of_lt hu0 (by rw [hv0]; exact hN), hv0]
    have hlr : ((lim (val a * 2 ^ s) ++ [0, 0]).take ((lim (val a)).length + 1)).length = (lim (val a)).length + 1 := by
     rw [List.length_take, List.length_append]
     simp
     omega
    have hlt : val a * 2 ^ s < val b * 2 ^ s * pw ((lim (val a)).length - n) := by
     have h5 := val_lt (U_lim na)
     rw [val_lim na] at h5
     have h6 : pw n <= val b := by
      have h7 := Int.mul_ediv_add_emod (val b) (pw n)
      have h8 := Int.emod_nonneg (val b) (show pw n ≠ 0 by omega)
      rw [htop] at h7
      have h9 := Int.mul_le_mul_of_nonneg_left (show 1 <= x by omega) (show 0 <= pw n by omega)
      omega
     have hpm := pw_pos ((lim (val a)).length - n)
     have h7 := Int.mul_le_mul_of_nonneg_right h6 (show 0 <= pw ((lim (val a)).length - n) by omega)
     rw [<- pw_add, show n + ((lim (val a)).length - n) = (lim (val a)).length by omega] at h7
     have h8 := Int.mul_lt_mul_of_pos_right (show val a < val b * pw ((lim (val a)).length - n) by omega) hps
     have e : val b * pw ((lim (val a)).length - n) * 2 ^ s = val b * 2 ^ s * pw ((lim (val a)).length - n) := by grind
     omega
    obtain ⟨K4, h4⟩ := shl_ev (lim (val b)) (s : Int) (U_lim nb) (by omega)
    rw [val_lim nb] at h4
    have hsv : ∀ v : Int, shlv v (s : Int) = v * 2 ^ s := fun v => by
     unfold shlv
     by_cases hc : (s : Int) < 1
     ·rw [if_pos hc, show s = 0 by omega]; simp
     ·rw [if_neg hc, if_neg (by omega), Int.toNat_natCast]
    rw [hsv] at h4
    obtain ⟨r', q', K5, g1, g2, g3, g4, g5, g6, g7⟩ := div_l0 (lim (val b * 2 ^ s)) (U_lim (by omega)) (by omega) (by rw [hdl]; exact hdlast) (s : Int) _ 0 ((lim (val a * 2 ^ s) ++ [0, 0]).take ((lim (val a)).length + 1)) (List.replicate ((lim (val a)).length - n) 0) (by omega) rfl (U_take hu0 _) (U_replicate _) (by rw [hdl, hlr, List.length_replicate]; omega) (by rw [hlr]; omega)
     (fun j _ => by
      rw [List.getD_eq_getElem?_getD, List.getElem?_replicate]
      split <;> rfl)
     (by rw [hv1, val_lim (by omega), List.length_replicate, Nat.sub_zero]; exact hlt)
    have r0 := val_nonneg g1
    rw [hv1, val_lim (n := val b * 2 ^ s) (by omega), val_replicate, Int.mul_zero, Int.add_zero] at g6
    rw [val_lim (n := val b * 2 ^ s) (by omega)] at g5
    have gq : val q' = val a / val b := by
     have : val a * 2 ^ s / (val b * 2 ^ s) = val q' := by
      rw [g6, Int.add_comm, Int.add_mul_ediv_left _ _ (by omega), Int.ediv_eq_zero_of_lt r0 g5, Int.zero_add]
     rw [<- this, Int.mul_ediv_mul_of_pos_left _ _ hps]
    have gr : val r' = val a % val b * 2 ^ s := by
     have : val a * 2 ^ s % (val b * 2 ^ s) = val r' := by
      rw [g6, Int.add_comm, Int.add_mul_emod_self_left, Int.emod_eq_of_lt r0 g5]
     rw [<- this, Int.mul_comm (val a), Int.mul_comm (val b), Int.mul_emod_mul_of_pos _ _ hps, Int.mul_comm]
    have hlr' : r'.length <= 1073741824 := by rw [g4, hlr]; omega
    have hlq' : q'.length <= 1073741824 := by rw [g3, List.length_replicate]; omega
    obtain ⟨K6, h6⟩ := shr_ev r' (s : Int) g1 hlr'
    obtain ⟨K7, h7⟩ := cut_ev q' g2 hlq'
    have hsr : shrv (val a % val b * 2 ^ s) (s : Int) = val a % val b := by
     unfold shrv
     by_cases hc : (s : Int) < 1
     ·rw [if_pos hc, show s = 0 by omega]; simp
     ·rw [if_neg hc, Int.toNat_natCast, Int.mul_ediv_cancel _ (by omega)]
    rw [gr, hsr] at h6
    rw [gq] at h7
    rw [List.length_replicate, Nat.sub_zero, show ((0 : Nat) : Int) = 0 from rfl] at g7
    obtain ⟨K8, h8⟩ := cut_ev (lim (val a)) (U_lim na) (by omega)
    rw [val_lim na] at h8
    have w1 : IntKind.i64.wrap (((n + 1 : Nat) : Int) - 1) = (n : Int) := wpr (by omega)
    have w2 : IntKind.i64.wrap (((lim (val a)).length : Int) + 1) = (((lim (val a)).length + 1 : Nat) : Int) := wsu (by omega)
    have w3 : IntKind.i64.wrap (IntKind.i64.wrap (((lim (val a)).length : Int) - ((n + 1 : Nat) : Int)) + 1) = (((lim (val a)).length - n : Nat) : Int) := by
     rw [w64 (x := ((lim (val a)).length : Int) - ((n + 1 : Nat) : Int)) (by omega) (by omega), w64 (by omega) (by omega)]; omega
    have hq4 : True /\ (0 : Int) <= (((lim (val a)).length - n : Nat) : Int) /\ Int.toNat (((lim (val a)).length - n : Nat) : Int) * 4 <= 140737488355328 := ⟨trivial, Int.natCast_nonneg _, by rw [Int.toNat_natCast]; omega⟩
    have hq4' : True /\ (0 : Int) <= (((lim (val a)).length - n : Nat) : Int) /\ ((lim (val a)).length - n) * 4 <= 140737488355328 := ⟨trivial, Int.natCast_nonneg _, by omega⟩
    have hl2 : ∀ l : List Int, (l ++ [0, 0]).length = l.length + 2 := fun l => by rw [List.length_append]; rfl
    have hl02 : ([0, 0] : List Int).length = 2 := rfl
    have g8 : ∀ k, K5 + (lim (val a)).length + 2 <= k -> nat_Div_l0 k k (((s : Int), lim (val b * 2 ^ s), (), (), (((lim (val a)).length - n : Nat) : Int), 0, ()), (List.take ((lim (val a)).length + 1) (lim (val a * 2 ^ s) ++ [0, 0]), List.replicate ((lim (val a)).length - n) 0, ())) = some (Sum.inl (((s : Int), (), (), ()), (r', q', ()))) := fun k hk => g7 k (by omega) k (by omega)
    by_cases hs0 : s = 0
    ·subst hs0
     have e20 : val a * 2 ^ 0 = val a := by rw [Int.pow_zero, Int.mul_one]
     refine ⟨K1 + K2 + K3 + K4 + K5 + K6 + K7 + K8 + (lim (val a)).length + 2, fun k hk => ?_⟩
     have f := g8 k (by omega)
     rw [e20] at f
     simp only [nat_Div]
     rw [h1 k (by omega), Option.bind_some, h2 k (by omega), Option.bind_some, beq_f hz, cond_false, h3 k (by omega), Option.bind_some, cond_f hs, beq_f c2', cond_false]
     simp only [hn, w1, if_pos (Int.natCast_nonneg n), Int.toNat_natCast, gd (show n < (lim (val b)).length by omega), Option.bind_some, <- hx, lz32 k hu.1 hu.2, hsd, h4 k (by omega), h8 k (by omega), cond_t (show ((0 : Nat) : Int) < 1 by decide)]
     have ha0 : (lim (val a)).length * 4 <= 140737488355328 := by omega
     have ha1 : ((lim (val a)).length + (0 + 1 + 1)) * 4 <= 140737488355328 := by omega
     have ha2 : (0 : Int) <= (((lim (val a)).length + 1 : Nat) : Int) /\ (((lim (val a)).length + 1 : Nat) : Int) <= (((lim (val a)).length + 2 : Nat) : Int) := by omega
     simp only [w2, w3, Int.toNat_natCast, List.length_replicate, List.length_cons, List.length_nil, hl2, if_pos ha0, if_pos ha1, if_pos ha2, if_pos hq4']
     erw [f]
     simp only [Option.bind_some, Sum.elim_inl]
     rw [h7 k (by omega), Option.bind_some, h6 k (by omega), Option.bind_some, if_neg c0]
    ·
     have hal0 : ¬ ((lim (val a)).length : Int) = 0 := by omega
     have wd : IntKind.i64.wrap (Int.tdiv (s : Int) 32) = ((0 : Nat) : Int) := by
      rw [Int.tdiv_eq_ediv_of_nonneg (by omega), Int.ediv_eq_zero_of_lt (by omega) (by omega)]; rfl
     have wm : Int.tmod (s : Int) 32 = (s : Int) := by
      rw [Int.tmod_eq_emod_of_nonneg (by omega), Int.emod_eq_of_lt (by omega) (by omega)]
     have w4 : IntKind.i64.wrap (IntKind.i64.wrap (((lim (val a)).length : Int) + ((0 : Nat) : Int)) + 1) = (((lim (val a)).length + 1 : Nat) : Int) := by
      rw [w64 (x := ((lim (val a)).length : Int) + ((0 : Nat) : Int)) (by omega) (by omega), w64 (by omega) (by omega)]; omega
     have hq5 : True /\ (0 : Int) <= (((lim (val a)).length + 1 : Nat) : Int) /\ Int.toNat (((lim (val a)).length + 1 : Nat) : Int) * 4 <= 140737488355328 := ⟨trivial, Int.natCast_nonneg _, by rw [Int.toNat_natCast]; omega⟩
     refine ⟨K1 + K2 + K3 + K4 + K5 + K6 + K7 + K8 + (lim (val a)).length + 5, fun k hk => ?_⟩
     obtain ⟨o', s1, s2, s3, s4⟩ := dshl_l3 (lim (val a)) (lim (val b)) (s : Int) (lim (val b * 2 ^ s)) (lim (val a)) (U_lim na) 0 s k (by omega) (by omega) _ k 0 (List.replicate ((lim (val a)).length + 1) 0) (by omega) (by omega) rfl (U_replicate _) (by simp) (by rw [getD_replicate0]; exact hps) (fun q _ => getD_replicate0 _ _) (by rw [val_replicate, List.take_zero, val_nil, Int.mul_zero])
     rw [val_lim na, show 32 * 0 + s = s by omega] at s3
     have s5 := dcut_l4 (lim (val a)) (lim (val b)) (s : Int) (lim (val b * 2 ^ s)) k o'.length o' k rfl (by omega) s1 (by omega)
     rw [s3] at s5
     have f := g8 k (by omega)
     simp only [nat_Div]
     rw [h1 k (by omega), Option.bind_some, h2 k (by omega), Option.bind_some, beq_f hz, cond_false, h3 k (by omega), Option.bind_some, cond_f hs, beq_f c2', cond_false]
     simp only [hn, w1, if_pos (Int.natCast_nonneg n), Int.toNat_natCast, gd (show n < (lim (val b)).length by omega), Option.bind_some, <- hx, lz32 k hu.1 hu.2, hsd, h4 k (by omega), h8 k (by omega), cond_f (show ¬ (s : Int) < 1 by omega), cond_f (show ¬ (s : Int) > 16777216 by omega), beq_f hal0, cond_false, wd, wm, w4, if_pos hq5]
     erw [s4]
     simp only [Option.bind_some, Sum.elim_inl]
     erw [s5]
     have hq5' : True /\ (0 : Int) <= (((lim (val a)).length + 1 : Nat) : Int) /\ ((lim (val a)).length + 1) * 4 <= 140737488355328 := ⟨trivial, Int.natCast_nonneg _, by omega⟩
     have ha1 : ((lim (val a * 2 ^ s)).length + (0 + 1 + 1)) * 4 <= 140737488355328 := by omega
     have ha2 : (0 : Int) <= (((lim (val a)).length + 1 : Nat) : Int) /\ (((lim (val a)).length + 1 : Nat) : Int) <= (((lim (val a * 2 ^ s)).length + 2 : Nat) : Int) := by omega
     simp only [Option.bind_some, Sum.elim_inl, hn, w2, w3, Int.toNat_natCast, List.length_replicate, List.length_cons, List.length_nil, hl2, if_pos ha1, if_pos ha2, if_pos hq4', if_pos hq5']
     erw [f]
     simp only [Option.bind_some, Sum.elim_inl]
     rw [h7 k (by omega), Option.bind_some, h6 k (by omega), Option.bind_some, if_neg c0]
def isq : Nat -> Nat
 | 0 => 0
 | n + 1 => if (isq n + 1) * (isq n + 1) <= n + 1 then isq n + 1 else isq n
def sqv (n : Int) : Int := (isq n.toNat : Int)
theorem isq_le (n : Nat) : isq n * isq n <= n /\ n < (isq n + 1) * (isq n + 1) := by
 induction n with
 | zero => decide
 | succ n ih =>
  unfold isq
  split
  ·rename_i h
   refine ⟨h, ?_⟩
   have e : (isq n + 1 + 1) * (isq n + 1 + 1) = (isq n + 1) * (isq n + 1) + 2 * (isq n + 1) + 1 := by grind
   omega
  ·rename_i h
   omega
theorem sqv_nonneg (n : Int) : 0 <= sqv n := by unfold sqv; omega
theorem sqv_le {n : Int} (h : 0 <= n) : sqv n * sqv n <= n /\ n < (sqv n + 1) * (sqv n + 1) := by
 obtain ⟨m, rfl⟩ : ∃ m : Nat, n = m := ⟨n.toNat, by omega⟩
 unfold sqv
 rw [Int.toNat_natCast]
 have := isq_le m
 exact ⟨by exact_mod_cast this.1, by exact_mod_cast this.2⟩
theorem sq_lt {a b : Int} (ha : 0 <= a) (hb : 0 <= b) (h : a * a < b * b) : a < b := by
 by_cases hq : a < b
 ·exact hq
 ·have := Int.mul_le_mul (show b <= a by omega) (show b <= a by omega) hb ha
  omega
theorem sqv_eq {n r : Int} (h0 : 0 <= r) (h1 : r * r <= n) (h2 : n < (r + 1) * (r + 1)) : sqv n = r := by
 have hn : 0 <= n := by have := Int.mul_nonneg h0 h0; omega
 obtain ⟨a, b⟩ := sqv_le hn
 have s0 := sqv_nonneg n
 have c1 := sq_lt h0 (show 0 <= sqv n + 1 by omega) (by omega)
 have c2 := sq_lt s0 (show 0 <= r + 1 by omega) (by omega)
 omega
theorem sgz_beq (x y : Int) : (sgz (x - y) == 0) = (x == y) := by
 rcases Int.lt_trichotomy x y with h | h | h
 ·rw [sgz_neg (by omega), (beq_eq_false_iff_ne (a := x) (b := y)).2 (by omega)]; rfl
 ·subst h; rw [Int.sub_self, sgz_zero]; simp
 ·rw [sgz_pos (by omega), (beq_eq_false_iff_ne (a := x) (b := y)).2 (by omega)]; rfl
theorem amgm (x y : Int) : 4 * (x * y) <= (x + y) * (x + y) := by
 have h : 0 <= (x - y) * (x - y) := by
  rcases Int.le_total 0 (x - y) with h | h
  ·exact Int.mul_nonneg h h
  ·have := Int.mul_nonneg (show 0 <= -(x - y) by omega) (show 0 <= -(x - y) by omega)
   rw [Int.neg_mul_neg] at this
   exact this
 have e1 : (x - y) * (x - y) = x * x - 2 * (x * y) + y * y := by grind
 have e2 : (x + y) * (x + y) = x * x + 2 * (x * y) + y * y := by grind
 omega
theorem newton {n s : Int} (hn : 0 < n) (hs : 0 < s) (h : n < (s + 1) * (s + 1)) : (¬ (s + n / s) / 2 < s -> s * s <= n) /\ ((s + n / s) / 2 < s -> 0 < (s + n / s) / 2 /\ n < ((s + n / s) / 2 + 1) * ((s + n / s) / 2 + 1)) := by
 have e := Int.mul_ediv_add_emod n s
 have m0 := Int.emod_nonneg n (show s ≠ 0 by omega)
 have m1 := Int.emod_lt_of_pos n hs
 have q0 := Int.ediv_nonneg (show 0 <= n by omega) (show 0 <= s by omega)
 obtain ⟨q, hq⟩ : ∃ q, q = n / s := ⟨_, rfl⟩
 rw [<- hq] at e q0 ⊢
 constructor
 ·intro hc
  have h1 := Int.mul_le_mul_of_nonneg_left (show s <= q by omega) (show 0 <= s by omega)
  omega
 ·intro hc
  obtain ⟨t, ht⟩ : ∃ t, t = (s + q) / 2 := ⟨_, rfl⟩
  rw [<- ht] at hc ⊢
  have h1 := amgm s (q + 1)
  have h2 := Int.mul_le_mul (show s + (q + 1) <= 2 * (t + 1) by omega) (show s + (q + 1) <= 2 * (t + 1) by omega) (by omega) (by omega)
  have e2 : 2 * (t + 1) * (2 * (t + 1)) = 4 * ((t + 1) * (t + 1)) := by grind
  have e3 : s * (q + 1) = s * q + s := by grind
  have h3 : n < (t + 1) * (t + 1) := by omega
  refine ⟨?_, h3⟩
  by_cases hz : 0 < t
  ·exact hz
  ·have : t = 0 := by omega
   subst this
   omega
theorem root_l0 (n : Int) (hn : 0 < n) (L : Nat) (hL : L <= 268435456) (hln : (lim n).length <= L) (e : Nat) :
  ∀ (s : Int), s = (e : Int) -> 0 < s -> (lim s).length <= L -> n < (s + 1) * (s + 1) -> ∃ K, ∀ k m, K <= k -> K <= m -> nat_Root_l0_g k m ((lim n, lim s, ()), ()) = some (Sum.inl ((lim (sqv n), sqv n * sqv n == n, ()), ())) := by
 induction e using Nat.strongRecOn with
 | _ e ih =>
  intro s hm hs hls hlt
  have hn0 : 0 <= n := by omega
  have hs0 : 0 <= s := by omega
  have hq0 := Int.ediv_nonneg hn0 hs0
  have hql : (lim (n / s)).length <= L := Nat.le_trans (lim_len_mono hq0 (Int.ediv_le_self s hn0)) hln
  obtain ⟨K1, h1⟩ := div_ev (lim n) (lim s) (U_lim hn0) (U_lim hs0) (by omega) (by omega)
  rw [val_lim hn0, val_lim hs0, if_neg (by omega)] at h1
  obtain ⟨K2, h2⟩ := add_ev (lim s) (lim (n / s)) (U_lim hs0) (U_lim hq0) (by omega) (by omega)
  rw [val_lim hs0, val_lim hq0] at h2
  have hsl : (lim (s + n / s)).length <= L + 1 := by
   have a1 := val_lt (U_lim hs0)
   have a2 := val_lt (U_lim hq0)
   rw [val_lim hs0] at a1
   rw [val_lim hq0] at a2
   have a3 := pw_mono hls
   have a4 := pw_mono hql
   exact lim_len (by omega) _ (by rw [pw_succ]; omega)
  obtain ⟨K3, h3⟩ := shr_ev (lim (s + n / s)) 1 (U_lim (by omega)) (by omega)
  have hsh : shrv (s + n / s) 1 = (s + n / s) / 2 := by unfold shrv; rw [if_neg (by omega)]; rfl
  rw [val_lim (by omega), hsh] at h3
  have ht0 : 0 <= (s + n / s) / 2 := by omega
  have htl := lim_len_mono ht0 (show (s + n / s) / 2 <= s + n / s by omega)
  obtain ⟨K4, h4⟩ := cmp_ev (lim ((s + n / s) / 2)) (lim s) (U_lim ht0) (U_lim hs0) (by omega) (by omega)
  rw [val_lim ht0, val_lim hs0] at h4
  obtain ⟨c1, c2⟩ := newton hn hs hlt
  by_cases hc : (s + n / s) / 2 < s
  ·obtain ⟨d1, d2⟩ := c2 hc
   obtain ⟨K5, h5⟩ := ih ((s + n / s) / 2).toNat (by omega) ((s + n / s) / 2) (by omega) d1 (Nat.le_trans (lim_len_mono ht0 (by omega)) hls) d2
   refine ⟨K1 + K2 + K3 + K4 + K5 + 1, fun k m hk hm' => ?_⟩
   obtain ⟨m, rfl⟩ : ∃ i, m = i + 1 := ⟨m - 1, by omega⟩
   simp only [nat_Root_l0_g]
   rw [h1 k (by omega), Option.bind_some]
   dsimp only
   rw [h2 k (by omega), Option.bind_some, h3 k (by omega), Option.bind_some, h4 k (by omega), Option.bind_some, sgz_neg (by omega), cond_t (show (-1 : Int) < 0 by decide)]
   exact h5 k m (by omega) (by omega)
  ·have hr := sqv_eq hs0 (c1 hc) hlt
   obtain ⟨K5, h5⟩ := mul_ev (lim s) (lim s) (U_lim hs0) (U_lim hs0) (by omega)
   have hss := Int.mul_nonneg hs0 hs0
   have hssl := Nat.le_trans (lim_len_mono hss (c1 hc)) hln
   obtain ⟨K6, h6⟩ := cmp_ev (lim (s * s)) (lim n) (U_lim hss) (U_lim hn0) (by omega) (by omega)
   rw [val_lim hs0] at h5
   rw [val_lim hss, val_lim hn0] at h6
   have hsg : ¬ sgz ((s + n / s) / 2 - s) < 0 := by unfold sgz; split <;> (try split) <;> omega
   refine ⟨K1 + K2 + K3 + K4 + K5 + K6 + 1, fun k m hk hm' => ?_⟩
   obtain ⟨m, rfl⟩ : ∃ i, m = i + 1 := ⟨m - 1, by omega⟩
   simp only [nat_Root_l0_g]
   rw [h1 k (by omega), Option.bind_some]
   dsimp only
   rw [h2 k (by omega), Option.bind_some, h3 k (by omega), Option.bind_some, h4 k (by omega), Option.bind_some, cond_f hsg, h5 k (by omega), Option.bind_some, h6 k (by omega), Option.bind_some, sgz_beq, hr]
theorem root_ev (a : List Int) (ha : U a) (hla : a.length <= 1048000) : ∃ K, ∀ k, K <= k -> nat_Root k a = some (lim (sqv (val a)), sqv (val a) * sqv (val a) == val a, ()) := by
 have na := val_nonneg ha
 have la := lim_len na a.length (val_lt ha)
 obtain ⟨K1, h1⟩ := cut_ev a ha (by omega)
 by_cases c0 : val a = 0
 ·refine ⟨K1, fun k hk => ?_⟩
  simp only [nat_Root, nat_Root_l0]
  rw [h1 k hk, Option.bind_some, c0, lim_zero, show sqv 0 = 0 from rfl, lim_zero]
  rfl
 ·have hpos : 0 < val a := by omega
  have hne : ((lim (val a)).length : Int) ≠ 0 := fun h => c0 ((lim_nil_iff na).1 (by omega))
  obtain ⟨K2, h2⟩ := len_ev (lim (val a)) (U_lim na) (by omega)
  rw [val_lim na] at h2
  have b1 := bl_ge hpos
  have b2 := bl_lt na
  have b3 := bl_pos hpos
  have b4 := bl_le (n := val a) (m := 32 * a.length) (by rw [<- p2_limb]; exact val_lt ha)
  obtain ⟨e, he⟩ : ∃ e : Nat, (bl (val a) + 1) / 2 = (e : Int) := ⟨((bl (val a) + 1) / 2).toNat, by omega⟩
  obtain ⟨K3, h3⟩ := shl_ev [1] ((bl (val a) + 1) / 2) (by simp [U]) (by simp)
  have hv1 : val [1] = 1 := by simp
  have hsv : shlv 1 ((bl (val a) + 1) / 2) = 2 ^ e := by
   unfold shlv
   rw [if_neg (by omega)]
   by_cases hbig : (bl (val a) + 1) / 2 > 16777216
   ·omega
   ·rw [if_neg hbig, he, Int.toNat_natCast, Int.one_mul]
  rw [hv1, hsv] at h3
  have hp := p2_pos e
  have hlt : val a < 2 ^ e * 2 ^ e := by
   rw [<- p2_add]
   have := p2_mono (show (bl (val a)).toNat <= e + e by omega)
   omega
  have hsl : (lim (2 ^ e)).length <= a.length + 1 := by
   refine lim_len (by omega) _ ?_
   have := p2_mono (show e <= (bl (val a)).toNat by omega)
   have h5 := val_lt ha
   have h6 : (2 : Int) ^ (bl (val a)).toNat <= 2 * val a := by
    rw [show (bl (val a)).toNat = (bl (val a) - 1).toNat + 1 by omega, p2_succ]
    omega
   rw [pw_succ]
   omega
  obtain ⟨K4, h4⟩ := root_l0 (val a) hpos (a.length + 1) (by omega) (by omega) (2 ^ e : Int).toNat (2 ^ e) (by omega) hp hsl (by
   have e3 : ((2 : Int) ^ e + 1) * (2 ^ e + 1) = 2 ^ e * 2 ^ e + 2 * 2 ^ e + 1 := by grind
   omega)
  have hroot : ∀ k m, nat_Root_l0_g k (m + 1) ((lim (val a), lim (2 ^ e), ()), ()) = (nat_Div k (lim (val a)) (lim (2 ^ e))).bind fun r4 =>
    (nat_Add k (lim (2 ^ e)) r4.1).bind fun r5 => (nat_Shr k r5.1 1).bind fun r6 => (nat_Cmp k r6.1 (lim (2 ^ e))).bind fun r7 =>
    bif (decide (r7.1 < 0)) then nat_Root_l0_g k m ((lim (val a), r6.1, ()), ())
    else (nat_Mul k (lim (2 ^ e)) (lim (2 ^ e))).bind fun r8 => (nat_Cmp k r8.1 (lim (val a))).bind fun r9 => some (Sum.inl ((lim (2 ^ e), (r9.1 == 0), ()), ())) := fun k m => by simp only [nat_Root_l0_g]
  refine ⟨K1 + K2 + K3 + K4 + 1, fun k hk => ?_⟩
  have f := h4 k (k + 1) (by omega) (by omega)
  rw [hroot] at f
  simp only [nat_Root, nat_Root_l0]
  rw [h1 k (by omega), Option.bind_some, beq_f hne, cond_false, h2 k (by omega), Option.bind_some, w64 (x := bl (val a) + 1) (by omega) (by omega), Int.tdiv_eq_ediv_of_nonneg (by omega), w64 (by omega) (by omega), h3 k (by omega), Option.bind_some]
  erw [f]
  rfl
theorem and1 (e : Int) : IntKind.i64.wrap (BitVec.toNat (BitVec.ofInt IntKind.i64.bits e &&& BitVec.ofInt IntKind.i64.bits 1)) = e % 2 := by
 have h1 : (BitVec.ofInt IntKind.i64.bits e &&& BitVec.ofInt IntKind.i64.bits 1).toNat = (BitVec.ofInt 64 e).toNat % 2 := by
  rw [BitVec.toNat_and, show (BitVec.ofInt IntKind.i64.bits 1).toNat = 1 by decide, Nat.and_one_is_mod]
  rfl
 rw [h1, BitVec.toNat_ofInt]
 rw [w64 (by omega) (by omega)]
 omega
theorem word_eq (k : Nat) (hk : 4 <= k) (s : Int) (h0 : 9223372036854775808 <= s) (h1 : s < 18446744073709551616) : quot_word k (lim s) = some (s, ()) := by
 obtain ⟨k, rfl⟩ : ∃ i, k = i + 1 + 1 + 1 := ⟨k - 3, by omega⟩
 have e : lim s = [s % 4294967296, s / 4294967296] := by
  rw [lim_pos (by omega), lim_pos (by omega), show s / 4294967296 / 4294967296 = 0 by omega, lim_zero, show s / 4294967296 % 4294967296 = s / 4294967296 by omega]
 have c0 : (0 : Int) < (([s % 4294967296, s / 4294967296] : List Int).length : Int) := by simp
 have c1 : (1 : Int) < (([s % 4294967296, s / 4294967296] : List Int).length : Int) := by simp
 have c2 : ¬ (2 : Int) < (([s % 4294967296, s / 4294967296] : List Int).length : Int) := by simp
 have w1 : IntKind.i64.wrap (0 + 1) = 1 := by decide
 have w2 : IntKind.i64.wrap (1 + 1) = 2 := by decide
 have w3 : IntKind.i64.wrap (32 * 0) = ((0 : Nat) : Int) := by decide
 have w4 : IntKind.i64.wrap (32 * 1) = ((32 : Nat) : Int) := by decide
 have n3 : ¬ ((0 : Nat) : Int) < 0 := by decide
 have n4 : ¬ ((32 : Nat) : Int) < 0 := by decide
 have z0 : (0 : Int) <= 0 := by decide
 have z1 : (0 : Int) <= 1 := by decide
 have g0 : ([s % 4294967296, s / 4294967296] : List Int)[Int.toNat 0]? = some (s % 4294967296) := rfl
 have g1 : ([s % 4294967296, s / 4294967296] : List Int)[Int.toNat 1]? = some (s / 4294967296) := rfl
 have a0 : IntKind.u64.wrap (s % 4294967296 * 2 ^ min (Int.toNat ((0 : Nat) : Int)) IntKind.u64.bits) = s % 4294967296 := (shlR (s := 0) (by omega)).trans (by rw [Int.pow_zero]; omega)
 have a1 : IntKind.u64.wrap (s / 4294967296 * 2 ^ min (Int.toNat ((32 : Nat) : Int)) IntKind.u64.bits) = s / 4294967296 * 4294967296 := (shlR (s := 32) (by omega)).trans (by rw [show (2 : Int) ^ 32 = 4294967296 from rfl]; omega)
 have b0 : IntKind.u64.wrap (s % 4294967296) = s % 4294967296 := u64w (by omega) (by omega)
 have b1 : IntKind.u64.wrap (s / 4294967296) = s / 4294967296 := u64w (by omega) (by omega)
 have o0 : Go.bits .or .u64 0 (s % 4294967296) = s % 4294967296 := by
  have := or_join64 (h := 0) (l := s % 4294967296) (by decide) (by decide) (by omega) (by omega)
  simpa using this
 have o1 : Go.bits .or .u64 (s % 4294967296) (s / 4294967296 * 4294967296) = s := by
  have h := or_join64 (h := s / 4294967296) (l := s % 4294967296) (by omega) (by omega) (by omega) (by omega)
  have hc : Go.bits .or .u64 (s % 4294967296) (s / 4294967296 * 4294967296) = Go.bits .or .u64 (s / 4294967296 * 4294967296) (s % 4294967296) := by
   rw [<- orR64, <- orR64, BitVec.or_comm]
  rw [hc, h]; omega
 rw [e]
 simp only [quot_word]
 rw [quot_word_l0]
 simp only [cond_t c0, if_pos z0, g0, Option.bind_some, w3, if_neg n3, b0, a0, orR64, o0, w1]
 rw [quot_word_l0]
 simp only [cond_t c1, if_pos z1, g1, Option.bind_some, w4, if_neg n4, b1, a1, orR64, o1, w2]
 rw [quot_word_l0]
 simp only [cond_f c2, Option.bind_some, Sum.elim_inl]
def rby (e : Int) : Int := if e % 2 = 0 then 64 else 63
def rootN (a : Nm) (up : Bool) : Nm × Bool :=
 if (fair a).1 ≠ 0 /\ (fair a).2.1 = true then (zN, false)
 else if (fair a).1 ≠ 1 then (fair a, true)
 else (grw false (sqv ((fair a).2.2.1 * 2 ^ (rby (fair a).2.2.2).toNat)) (Int.tdiv ((fair a).2.2.2 - rby (fair a).2.2.2) 2)
  (!(sqv ((fair a).2.2.1 * 2 ^ (rby (fair a).2.2.2).toNat) * sqv ((fair a).2.2.1 * 2 ^ (rby (fair a).2.2.2).toNat) == (fair a).2.2.1 * 2 ^ (rby (fair a).2.2.2).toNat)) up, true)
theorem quot_fair_eq (k : Nat) (n : Nm) : quot_fair k n = some (fair n, ()) := by
 simp only [quot_fair, num_May_eq, Option.bind_some, fair]
 cases may n <;> rfl
theorem sq_range {M : Int} {j : Nat} (h0 : 9223372036854775808 <= M) (h1 : M < 18446744073709551616) (hj : j = 63 \/ j = 64) : 9223372036854775808 <= sqv (M * 2 ^ j) /\ sqv (M * 2 ^ j) < 18446744073709551616 := by
 have hv : 85070591730234615865843651857942052864 <= M * 2 ^ j /\ M * 2 ^ j < 340282366920938463463374607431768211456 := by
  rcases hj with rfl | rfl
  ·rw [show (2 : Int) ^ 63 = 9223372036854775808 from rfl]; omega
  ·rw [show (2 : Int) ^ 64 = 18446744073709551616 from rfl]; omega
 obtain ⟨a, b⟩ := sqv_le (n := M * 2 ^ j) (by omega)
 have s0 := sqv_nonneg (M * 2 ^ j)
 have c1 := sq_lt (a := sqv (M * 2 ^ j)) (b := 18446744073709551616) s0 (by decide) (by omega)
 have c2 := sq_lt (a := 9223372036854775808) (b := sqv (M * 2 ^ j) + 1) (by decide) (by omega) (by omega)
 omega
theorem wfN_rootN {a : Nm} (ha : wfN a) (up : Bool) : mayP (rootN a up).1 := by
 unfold rootN
 split
 ·exact .inl ⟨rfl, rfl, rfl, rfl⟩
 ·split
  ·exact fair_wf ha
  ·rename_i h1 h2
   have hf := fair_wf ha
   have hr : 9223372036854775808 <= (fair a).2.2.1 /\ (fair a).2.2.1 < 18446744073709551616 := by
    rcases hf with h | h | h
    ·exact absurd h.1 (by omega)
    ·exact ⟨h.2.1, h.2.2.1⟩
    ·exact absurd h.1 (by omega)
   have := sq_range hr.1 hr.2 (j := (rby (fair a).2.2.2).toNat) (by unfold rby; split <;> simp)
   exact grw_may this.1 this.2
theorem td2 {x : Int} (h : x % 2 = 0) : Int.tdiv x 2 = x / 2 := by
 obtain ⟨y, rfl⟩ : ∃ y, x = 2 * y := ⟨x / 2, by omega⟩
 rw [Int.mul_tdiv_cancel_left _ (by decide), Int.mul_ediv_cancel_left _ (by decide)]
theorem quot_Root_eq (a : Nm) (ha : wfN a) (up : Bool) : ∃ K, ∀ k, K <= k -> quot_Root k a up = some ((rootN a up).1, (rootN a up).2, ()) := by
 have hf := fair_wf ha
 obtain ⟨b, hb⟩ : ∃ b, b = fair a := ⟨_, rfl⟩
 by_cases h1 : b.1 = 1
 ·have hM : 9223372036854775808 <= b.2.2.1 /\ b.2.2.1 < 18446744073709551616 /\ -1048576 <= b.2.2.2 /\ b.2.2.2 <= 1048576 := by
   rw [<- hb] at hf
   rcases hf with h | h | h
   ·exact absurd h.1 (by omega)
   ·exact h.2
   ·exact absurd h.1 (by omega)
  by_cases hs : b.2.1 = true
  ·refine ⟨0, fun k _ => ?_⟩
   have hr : rootN a up = (zN, false) := by unfold rootN; rw [<- hb, if_pos ⟨by omega, hs⟩]
   simp only [quot_Root, quot_fair_eq, Option.bind_some, <- hb, hr, h1, hs]
   rfl
  ·have hs' : b.2.1 = false := by cases h : b.2.1 <;> simp_all
   have hr : rootN a up = (grw false (sqv (b.2.2.1 * 2 ^ (rby b.2.2.2).toNat)) (Int.tdiv (b.2.2.2 - rby b.2.2.2) 2) (!(sqv (b.2.2.1 * 2 ^ (rby b.2.2.2).toNat) * sqv (b.2.2.1 * 2 ^ (rby b.2.2.2).toNat) == b.2.2.1 * 2 ^ (rby b.2.2.2).toNat)) up, true) := by
    unfold rootN; rw [<- hb, if_neg (fun h => hs h.2), if_neg (fun h => h h1)]
   have hU : U [b.2.2.1 % 4294967296, b.2.2.1 / 4294967296] := by
    intro x hx
    simp only [List.mem_cons, List.not_mem_nil, or_false] at hx
    rcases hx with rfl | rfl <;> omega
   have hv : val [b.2.2.1 % 4294967296, b.2.2.1 / 4294967296] = b.2.2.1 := by simp only [val_cons, val_nil]; omega
   have hlimbs : ∀ k, quot_limbs k b.2.2.1 = some ([b.2.2.1 % 4294967296, b.2.2.1 / 4294967296], ()) := fun k => by
    simp only [quot_limbs, shr32, IntKind.wrap_u32]
    rw [show b.2.2.1 / 4294967296 % 4294967296 = b.2.2.1 / 4294967296 by omega]
   have key : ∀ j : Nat, j = 63 \/ j = 64 -> ∃ K, ∀ k, K <= k -> ∀ {β : Type} (f : HL [.list (.int .u32), .bool] -> HL [.int .u64] -> Option β),
     ((nat_Shl k [b.2.2.1 % 4294967296, b.2.2.1 / 4294967296] (j : Int)).bind fun r3 => (nat_Root k r3.1).bind fun r4 => (quot_word k r4.1).bind fun r5 => f r4 r5) =
     f (lim (sqv (b.2.2.1 * 2 ^ j)), sqv (b.2.2.1 * 2 ^ j) * sqv (b.2.2.1 * 2 ^ j) == b.2.2.1 * 2 ^ j, ()) (sqv (b.2.2.1 * 2 ^ j), ()) := fun j hj => by
    obtain ⟨K1, g1⟩ := shl_ev [b.2.2.1 % 4294967296, b.2.2.1 / 4294967296] (j : Int) hU (by simp)
    have hsv : shlv b.2.2.1 (j : Int) = b.2.2.1 * 2 ^ j := by unfold shlv; rw [if_neg (by omega), if_neg (by omega), Int.toNat_natCast]
    rw [hv, hsv] at g1
    have hp := p2_pos j
    have hn0 : 0 <= b.2.2.1 * 2 ^ j := Int.mul_nonneg (by omega) (by omega)
    have hlen : (lim (b.2.2.1 * 2 ^ j)).length <= 4 := lim_len hn0 4 (by
     rw [show pw 4 = 340282366920938463463374607431768211456 from rfl]
     rcases hj with rfl | rfl
     ·rw [show (2 : Int) ^ 63 = 9223372036854775808 from rfl]; omega
     ·rw [show (2 : Int) ^ 64 = 18446744073709551616 from rfl]; omega)
    obtain ⟨K2, g2⟩ := root_ev (lim (b.2.2.1 * 2 ^ j)) (U_lim hn0) (by omega)
    rw [val_lim hn0] at g2
    obtain ⟨q0, q1⟩ := sq_range hM.1 hM.2.1 hj
    refine ⟨K1 + K2 + 4, fun k hk β f => ?_⟩
    rw [g1 k (by omega), Option.bind_some, g2 k (by omega), Option.bind_some, word_eq k (by omega) _ q0 q1, Option.bind_some]
   by_cases he : b.2.2.2 % 2 = 0
   ·have hby : rby b.2.2.2 = 64 := by unfold rby; rw [if_pos he]
    obtain ⟨q0, q1⟩ := sq_range hM.1 hM.2.1 (j := 64) (.inr rfl)
    obtain ⟨K, hK⟩ := key 64 (.inr rfl)
    refine ⟨K, fun k hk => ?_⟩
    have f := hK k hk (β := HL [TNm, .bool]) (fun r9 r10 => (num_Grow k false r10.1 (IntKind.i64.wrap (Int.tdiv (IntKind.i64.wrap (b.2.2.2 - 64)) 2)) (!r9.2.1) up).bind fun r11 => some (r11.1, true, ()))
    have wE : IntKind.i64.wrap (Int.tdiv (IntKind.i64.wrap (b.2.2.2 - 64)) 2) = Int.tdiv (b.2.2.2 - 64) 2 := by
     rw [w64 (x := b.2.2.2 - 64) (by omega) (by omega)]
     rw [td2 (by omega), w64 (by omega) (by omega)]
    have hE : -9223372036854775808 <= Int.tdiv (b.2.2.2 - 64) 2 /\ Int.tdiv (b.2.2.2 - 64) 2 < 9223372036854775807 := by rw [td2 (by omega)]; omega
    rw [hr, hby]
    simp only [quot_Root, quot_fair_eq, Option.bind_some, <- hb, hs', h1, show ((1 : Int) != 0) = true from rfl, show ((1 : Int) != 1) = false from rfl, cond_true, cond_false, and1, he, show ((0 : Int) != 0) = false from rfl, hlimbs]
    refine f.trans ?_
    dsimp only
    rw [wE, grw_eq k false _ _ _ _ q0 q1 hE.1 hE.2, Option.bind_some]
    simp only [show Int.toNat 64 = 64 from rfl, show Int.toNat 63 = 63 from rfl]
   ·have hby : rby b.2.2.2 = 63 := by unfold rby; rw [if_neg he]
    have he1 : b.2.2.2 % 2 = 1 := by omega
    obtain ⟨q0, q1⟩ := sq_range hM.1 hM.2.1 (j := 63) (.inl rfl)
    obtain ⟨K, hK⟩ := key 63 (.inl rfl)
    refine ⟨K, fun k hk => ?_⟩
    have f := hK k hk (β := HL [TNm, .bool]) (fun r9 r10 => (num_Grow k false r10.1 (IntKind.i64.wrap (Int.tdiv (IntKind.i64.wrap (b.2.2.2 - 63)) 2)) (!r9.2.1) up).bind fun r11 => some (r11.1, true, ()))
    have wE : IntKind.i64.wrap (Int.tdiv (IntKind.i64.wrap (b.2.2.2 - 63)) 2) = Int.tdiv (b.2.2.2 - 63) 2 := by
     rw [w64 (x := b.2.2.2 - 63) (by omega) (by omega)]
     rw [td2 (by omega), w64 (by omega) (by omega)]
    have hE : -9223372036854775808 <= Int.tdiv (b.2.2.2 - 63) 2 /\ Int.tdiv (b.2.2.2 - 63) 2 < 9223372036854775807 := by rw [td2 (by omega)]; omega
    have w63 : IntKind.i64.wrap (64 - 1) = ((63 : Nat) : Int) := by decide
    rw [hr, hby]
    simp only [quot_Root, quot_fair_eq, Option.bind_some, <- hb, hs', h1, show ((1 : Int) != 0) = true from rfl, show ((1 : Int) != 1) = false from rfl, cond_true, cond_false, and1, he1, hlimbs, w63]
    refine f.trans ?_
    dsimp only
    rw [wE, grw_eq k false _ _ _ _ q0 q1 hE.1 hE.2, Option.bind_some]
    simp only [show Int.toNat 64 = 64 from rfl, show Int.toNat 63 = 63 from rfl]
 ·refine ⟨0, fun k _ => ?_⟩
  have hne : (b.1 != 1) = true := bne_iff_ne.mpr h1
  by_cases h0 : b.1 = 0
  ·have hr : rootN a up = (b, true) := by unfold rootN; rw [<- hb, if_neg (fun h => h.1 h0), if_pos h1]
   simp only [quot_Root, quot_fair_eq, Option.bind_some, <- hb, hr, h0, show ((0 : Int) != 0) = false from rfl, show ((0 : Int) != 1) = true from rfl, cond_true, cond_false]
  ·have hn0 : (b.1 != 0) = true := bne_iff_ne.mpr h0
   cases hs : b.2.1
   ·have hr : rootN a up = (b, true) := by unfold rootN; rw [<- hb, if_neg (fun h => by rw [hs] at h; exact absurd h.2 (by decide)), if_pos h1]
    simp only [quot_Root, quot_fair_eq, Option.bind_some, <- hb, hr, hn0, hs, hne, cond_true, cond_false]
   ·have hr : rootN a up = (zN, false) := by unfold rootN; rw [<- hb, if_pos ⟨h0, hs⟩]
    simp only [quot_Root, quot_fair_eq, Option.bind_some, <- hb, hr, hn0, hs, cond_true]
def posI : Iv := mkI zN (inf false)
def rootI (x : Iv) : Iv := if (two x posI).1 then two x posI else mkI (rootN (two x posI).2.1 false).1 (rootN (two x posI).2.2 true).1
def absI (x : Iv) : Iv := if bad x then noneI else if sgn x.2.1 >= 0 then x else if sgn x.2.2 <= 0 then negI x else mkI zN (most [x.2.2, neg x.2.1])
def sqrI (x : Iv) : Iv := if (absI x).1 then absI x else mkI (mulv (fair (absI x).2.1) (fair (absI x).2.1) false) (mulv (fair (absI x).2.2) (fair (absI x).2.2) true)
theorem wfI_posI : wfI posI := wfI_mkI wfN_zN (wfN_inf _)
theorem wfI_rootI {x : Iv} (hx : wfI x) : wfI (rootI x) := by
 have h := wfI_two hx wfI_posI
 unfold rootI
 split
 ·exact h
 ·exact wfI_mkI (wfN_mayP (wfN_rootN h.1 _)) (wfN_mayP (wfN_rootN h.2 _))
theorem wfI_absI {x : Iv} (hx : wfI x) : wfI (absI x) := by
 unfold absI
 split
 ·exact wfI_none
 ·split
  ·exact hx
  ·split
   ·exact wfI_negI hx
   ·refine wfI_mkI wfN_zN (wfN_most fun n hn => ?_)
    simp only [List.mem_cons, List.not_mem_nil, or_false] at hn
    rcases hn with rfl | rfl
    ·exact hx.2
    ·exact wfN_neg hx.1
theorem wfI_sqrI {x : Iv} (hx : wfI x) : wfI (sqrI x) := by
 have h := wfI_absI hx
 unfold sqrI
 split
 ·exact h
 ·exact wfI_mkI (wfN_mayP (mulP h.1 h.1 _)) (wfN_mayP (mulP h.2 h.2 _))
theorem posI_eq (k : Nat) : ivop_positive k = some (posI, ()) := by
 simp only [ivop_positive, num_Inf_eq, Option.bind_some, iv_Make_eq, posI]
theorem posP_eq (k : Nat) : polar_positive k = some (posI, ()) := by
 simp only [polar_positive, num_Inf_eq, Option.bind_some, iv_Make_eq, posI]
theorem ivop_Abs_eq (k : Nat) (hk : 100 <= k) (x : Iv) : ivop_Abs k x = some (absI x, ()) := by
 simp only [ivop_Abs, ivop_none_eq k [x] (by simp; omega) (by simp), Option.bind_some, iv_None_eq, num_Sign_eq, ivop_Neg_eq k hk, num_Neg_eq, num_Most_eq k [_, _] (by simp; omega) (by simp), iv_Make_eq, absI]
 simp only [List.any_cons, List.any_nil, Bool.or_false]
 cases bad x
 ·simp only [cond_false, Bool.false_eq_true, if_false]
  by_cases h1 : sgn x.2.1 >= 0
  ·rw [cond_t h1, if_pos h1]
  ·rw [cond_f h1, if_neg h1]
   by_cases h2 : sgn x.2.2 <= 0
   ·rw [cond_t h2, if_pos h2]
   ·rw [cond_f h2, if_neg h2]
 ·simp
theorem ivop_Sqr_eq (k : Nat) (hk : 100 <= k) {x : Iv} (hx : wfI x) : ivop_Sqr k x = some (sqrI x, ()) := by
 have h := wfI_absI hx
 simp only [ivop_Sqr, ivop_Abs_eq k hk, Option.bind_some, arith_Mul_eq _ _ _ _ h.1 h.1, arith_Mul_eq _ _ _ _ h.2 h.2, iv_Make_eq, sqrI]
 cases (absI x).1 <;> rfl
theorem meet2_eq (k : Nat) (hk : 100 <= k) (a b : Iv) : iv_Meet k [a, b] = some (two a b, ()) := by
 rw [iv_Meet_eq k [a, b] (by simp; omega) (by simp), meet_two]
theorem ivop_Root_eq {x : Iv} (hx : wfI x) : ∃ K, ∀ k, K <= k -> ivop_Root k x = some (rootI x, ()) := by
 have h := wfI_two hx wfI_posI
 obtain ⟨K1, h1⟩ := quot_Root_eq _ h.1 false
 obtain ⟨K2, h2⟩ := quot_Root_eq _ h.2 true
 refine ⟨K1 + K2 + 100, fun k hk => ?_⟩
 simp only [ivop_Root, posI_eq, Option.bind_some, meet2_eq k (show 100 <= k by omega), h1 k (show K1 <= k by omega), h2 k (show K2 <= k by omega), iv_Make_eq, rootI]
 cases (two x posI).1 <;> rfl
def plusB (z x y : Iv) : Iv × Iv := (two x (subI z y), two y (subI z (two x (subI z y))))
def minusB (z x y : Iv) : Iv × Iv := (two x (addI z y), two y (subI (two x (addI z y)) z))
def sqrB (z x : Iv) : Iv := hull [two x (rootI z), two x (negI (rootI z))]
theorem wfI_plusB {z x y : Iv} (hz : wfI z) (hx : wfI x) (hy : wfI y) : wfI (plusB z x y).1 /\ wfI (plusB z x y).2 := by
 have h1 := wfI_two hx (wfI_subI hz hy)
 exact ⟨h1, wfI_two hy (wfI_subI hz h1)⟩
theorem wfI_minusB {z x y : Iv} (hz : wfI z) (hx : wfI x) (hy : wfI y) : wfI (minusB z x y).1 /\ wfI (minusB z x y).2 := by
 have h1 := wfI_two hx (wfI_addI hz hy)
 exact ⟨h1, wfI_two hy (wfI_subI h1 hz)⟩
theorem wfI_hull {l : List Iv} (h : ∀ x ∈ l, wfI x) : wfI (hull l) := by
 unfold hull
 split
 ·exact wfI_none
 ·refine wfI_mkI (wfN_least fun n hn => ?_) (wfN_most fun n hn => ?_)
  ·obtain ⟨x, hx, _, rfl⟩ := mem_losOf.1 hn
   exact (wfI_fair (h x hx)).1
  ·obtain ⟨x, hx, _, rfl⟩ := mem_hisOf.1 hn
   exact (wfI_fair (h x hx)).2
theorem wfI_meet {l : List Iv} (h : ∀ x ∈ l, wfI x) : wfI (meet l) := by
 unfold meet
 split
 ·refine wfI_mkI (wfN_most fun n hn => ?_) (wfN_least fun n hn => ?_)
  ·obtain ⟨x, hx, _, rfl⟩ := mem_losOf.1 hn
   exact (wfI_fair (h x hx)).1
  ·obtain ⟨x, hx, _, rfl⟩ := mem_hisOf.1 hn
   exact (wfI_fair (h x hx)).2
 ·exact wfI_none
theorem wfI_sqrB {z x : Iv} (hz : wfI z) (hx : wfI x) : wfI (sqrB z x) := by
 refine wfI_hull fun y hy => ?_
 simp only [List.mem_cons, List.not_mem_nil, or_false] at hy
 rcases hy with rfl | rfl
 ·exact wfI_two hx (wfI_rootI hz)
 ·exact wfI_two hx (wfI_negI (wfI_rootI hz))
theorem back_Plus_eq (k : Nat) (hk : 100 <= k) {z x y : Iv} (hz : wfI z) (hx : wfI x) (hy : wfI y) : back_Plus k z x y = some ((plusB z x y).1, (plusB z x y).2, ()) := by
 have h1 := wfI_two hx (wfI_subI hz hy)
 simp only [back_Plus, ivop_Sub_eq k hk hz hy, Option.bind_some, meet2_eq k hk, ivop_Sub_eq k hk hz h1, plusB]
theorem back_Minus_eq (k : Nat) (hk : 100 <= k) {z x y : Iv} (hz : wfI z) (hx : wfI x) (hy : wfI y) : back_Minus k z x y = some ((minusB z x y).1, (minusB z x y).2, ()) := by
 have h1 := wfI_two hx (wfI_addI hz hy)
 simp only [back_Minus, ivop_Add_eq k hk hz hy, Option.bind_some, meet2_eq k hk, ivop_Sub_eq k hk h1 hz, minusB]
theorem back_Sqr_eq {z x : Iv} (hz : wfI z) (hx : wfI x) : ∃ K, ∀ k, K <= k -> back_Sqr k z x = some (sqrB z x, ()) := by
 obtain ⟨K, h⟩ := ivop_Root_eq hz
 refine ⟨K + 100, fun k hk => ?_⟩
 simp only [back_Sqr, h k (show K <= k by omega), Option.bind_some, meet2_eq k (show 100 <= k by omega), ivop_Neg_eq k (show 100 <= k by omega), iv_Hull_eq k [_, _] (by simp; omega) (by simp), sqrB]
def farI (f g : Iv) : Iv := rootI (addI (sqrI f) (sqrI g))
def distL (a b c d e : Iv) : List Iv :=
 let f := subI a c
 let g := subI b d
 let r := meet [e, posI, farI f g]
 let p := plusB (sqrI r) (sqrI f) (sqrI g)
 let x := minusB (sqrB p.1 f) a c
 let y := minusB (sqrB p.2 g) b d
 [x.1, y.1, x.2, y.2, r]
def distT (a b c d e : Iv) : List Iv := if (distL a b c d e).any bad then List.replicate 5 noneI else distL a b c d e
theorem box_none_eq (k : Nat) (x : Iv) : box_none k x = some (bad x, ()) := by
 simp only [box_none, iv_May_eq, Option.bind_some, bad]
 cases x.1 <;> rfl
theorem box_loop (k : Nat) : ∀ (l pre : List Iv) (m : Nat), l.length < m -> pre.length + l.length <= 1000000 ->
  box_Empty_l0 k m ((pre ++ l, (), ((pre ++ l).length : Int), (pre.length : Int), ()), ()) = some (match l.findIdx? bad with | some i => Sum.inl ((((pre.length + i : Nat) : Int), ()), ()) | none => Sum.inr (Sum.inl ((), ())))
 | [], pre, m + 1, _, _ => by
  have e : ¬ (pre.length : Int) < ((pre ++ []).length : Int) := by simp
  simp only [box_Empty_l0, cond_f e]
  rfl
 | x :: s, pre, m + 1, hm, hl => by
  simp only [List.length_cons] at hm hl
  have ih := box_loop k s (pre ++ [x]) m (by omega) (by simp; omega)
  rw [mid_eq, len_snoc] at ih
  simp only [box_Empty_l0, cond_t (len_lt pre x s), if_pos (Int.natCast_nonneg pre.length), at_mid, Option.bind_some, box_none_eq, wrap_succ (show pre.length <= 1000000000 by omega)]
  rw [List.findIdx?_cons]
  cases hb : bad x
  ·rw [cond_false, ih]
   simp only [Bool.false_eq_true, if_false]
   cases s.findIdx? bad with
   | none => rfl
   | some i => simp only [Option.map_some]; congr 5; omega
  ·rfl
theorem box_Empty_eq (k : Nat) (l : List Iv) (h : l.length < k) (h' : l.length <= 1000000) : box_Empty k l = some (l.any bad, ()) := by
 have := box_loop k l [] k h (by simpa using h')
 simp only [List.nil_append, List.length_nil, Nat.zero_add] at this
 simp only [box_Empty]
 rw [show ((0 : Nat) : Int) = 0 from rfl] at this
 rw [this]
 have hf : (l.findIdx? bad).isSome = l.any bad := List.findIdx?_isSome
 cases hq : l.findIdx? bad with
 | none => rw [hq] at hf; rw [<- hf]; rfl
 | some i =>
  rw [hq] at hf
  rw [<- hf]
  simp only [Option.bind_some, Sum.elim_inl, Option.isSome_some]
  rw [decide_eq_true (show ((i : Nat) : Int) >= 0 by omega)]
theorem box_Fair_eq (k : Nat) (hk : 100 <= k) (l : List Iv) (h : l.length = 5) : box_Fair k l = some (if l.any bad then List.replicate 5 noneI else l, ()) := by
 simp only [box_Fair, box_Empty_eq k l (by omega) (by omega), Option.bind_some, iv_None_eq]
 cases l.any bad
 ·simp only [cond_false, Bool.false_eq_true, if_false]
  rw [if_pos (by omega)]
 ·simp only [cond_true, if_true, w_Repeat]
  rw [if_pos (by omega)]
  rfl
theorem wfI_farI {f g : Iv} (hf : wfI f) (hg : wfI g) : wfI (farI f g) := wfI_rootI (wfI_addI (wfI_sqrI hf) (wfI_sqrI hg))
theorem polar_far_eq {f g : Iv} (hf : wfI f) (hg : wfI g) : ∃ K, ∀ k, K <= k -> polar_far k f g = some (farI f g, ()) := by
 obtain ⟨K, h⟩ := ivop_Root_eq (wfI_addI (wfI_sqrI hf) (wfI_sqrI hg))
 refine ⟨K + 100, fun k hk => ?_⟩
 simp only [polar_far, ivop_Sqr_eq k (show 100 <= k by omega) hf, ivop_Sqr_eq k (show 100 <= k by omega) hg, Option.bind_some, ivop_Add_eq k (show 100 <= k by omega) (wfI_sqrI hf) (wfI_sqrI hg), h k (show K <= k by omega), farI]
theorem wfI_distL {a b c d e : Iv} (ha : wfI a) (hb : wfI b) (hc : wfI c) (hd : wfI d) (he : wfI e) : ∀ x ∈ distL a b c d e, wfI x := by
 have hf := wfI_subI ha hc
 have hg := wfI_subI hb hd
 have hr : wfI (meet [e, posI, farI (subI a c) (subI b d)]) := wfI_meet fun x hx => by
  simp only [List.mem_cons, List.not_mem_nil, or_false] at hx
  rcases hx with rfl | rfl | rfl
  ·exact he
  ·exact wfI_posI
  ·exact wfI_farI hf hg
 have hp := wfI_plusB (wfI_sqrI hr) (wfI_sqrI hf) (wfI_sqrI hg)
 have hx := wfI_minusB (wfI_sqrB hp.1 hf) ha hc
 have hy := wfI_minusB (wfI_sqrB hp.2 hg) hb hd
 intro x h
 simp only [distL, List.mem_cons, List.not_mem_nil, or_false] at h
 rcases h with rfl | rfl | rfl | rfl | rfl
 ·exact hx.1
 ·exact hy.1
 ·exact hx.2
 ·exact hy.2
 ·exact hr
theorem Distance_eq {a b c d e : Iv} (ha : wfI a) (hb : wfI b) (hc : wfI c) (hd : wfI d) (he : wfI e) : ∃ K, ∀ k, K <= k -> polar_Distance k [a, b, c, d, e] = some (distT a b c d e, ()) := by
 have hf := wfI_subI ha hc
 have hg := wfI_subI hb hd
 have hr : wfI (meet [e, posI, farI (subI a c) (subI b d)]) := wfI_distL ha hb hc hd he _ (by simp [distL])
 have hp := wfI_plusB (wfI_sqrI hr) (wfI_sqrI hf) (wfI_sqrI hg)
 obtain ⟨K1, h1⟩ := polar_far_eq hf hg
 obtain ⟨K2, h2⟩ := back_Sqr_eq hp.1 hf
 obtain ⟨K3, h3⟩ := back_Sqr_eq hp.2 hg
 refine ⟨K1 + K2 + K3 + 100, fun k hk => ?_⟩
 have k100 : 100 <= k := by omega
 have n5 : ((([a, b, c, d, e] : List Iv).length : Int) != 5) = false := rfl
 have nvb : ∀ {β : Type} (F : (nestT T31 4).den -> Option β), (nestV T31 4 [a, b, c, d, e]).bind F = F (a, b, c, d, e) := fun F => rfl
 simp only [polar_Distance, n5, cond_false]
 refine (nvb _).trans ?_
 dsimp only
 erw [ivop_Sub_eq k k100 ha hc]
 simp only [Option.bind_some]
 erw [ivop_Sub_eq k k100 hb hd]
 simp only [Option.bind_some, posP_eq, h1 k (show K1 <= k by omega), iv_Meet_eq k [_, _, _] (show ([_, _, _] : List Iv).length < k by simp; omega) (by simp)]
 erw [ivop_Sqr_eq k k100 hr]
 simp only [Option.bind_some, ivop_Sqr_eq k k100 hf, ivop_Sqr_eq k k100 hg]
 erw [back_Plus_eq k k100 (wfI_sqrI hr) (wfI_sqrI hf) (wfI_sqrI hg)]
 simp only [Option.bind_some, h2 k (show K2 <= k by omega)]
 erw [back_Minus_eq k k100 (wfI_sqrB hp.1 hf) ha hc]
 simp only [Option.bind_some, h3 k (show K3 <= k by omega)]
 erw [back_Minus_eq k k100 (wfI_sqrB hp.2 hg) hb hd]
 simp only [Option.bind_some]
 erw [box_Fair_eq k k100 _ rfl]
 rfl
theorem distT_len (a b c d e : Iv) : (distT a b c d e).length = 5 := by unfold distT; split <;> rfl
theorem distT_may {a b c d e : Iv} : ∀ x ∈ distT a b c d e, mayI x = true := by
 intro x hx
 unfold distT at hx
 split at hx
 ·rw [(List.mem_replicate.1 hx).2]; exact mayI_noneI
 ·rename_i h
  have : ¬ bad x = true := fun hb => h (List.any_eq_true.2 ⟨x, hx, hb⟩)
  unfold bad at this
  cases hm : mayI x <;> simp_all
theorem wfI_distT {a b c d e : Iv} (ha : wfI a) (hb : wfI b) (hc : wfI c) (hd : wfI d) (he : wfI e) : ∀ x ∈ distT a b c d e, wfI x := by
 intro x hx
 unfold distT at hx
 split at hx
 ·rw [(List.mem_replicate.1 hx).2]; exact wfI_none
 ·exact wfI_distL ha hb hc hd he x hx
theorem fwdS_loop (k : Nat) (hk : 200 <= k) (r : List Iv) (hr : ∀ x ∈ r, wfI x) (D : Nm × Iv × List Sl) : ∀ (j m i : Nat) (t : Tb) (n : Nat), j < m -> i + j = n -> n = t.2.2.length -> n = r.length -> mayT t = true -> wfT t ->
  flow_Contract_s_l4 k m (((), (), (), (), (), (), (), (), (n : Int), (i : Int), ()), (r, (t.1, (t.2.1, ())), D, t.2.2, (), (), true, ())) = some (Sum.inl (((), (), (), (), ()), (r, ((fwds r j i t).1, ((fwds r j i t).2.1, ())), D, (fwds r j i t).2.2, ()))) := by
 intro j
 induction j with
 | zero =>
  intro m i t n hm hi hn hr2 ht hw
  cases m with
  | zero => omega
  | succ m =>
   have : ¬ (i : Int) < (n : Int) := by omega
   simp only [flow_Contract_s_l4, cond_f this, fwds]
 | succ j ih =>
  intro m i t n hm hi hn hr2 ht hw
  cases m with
  | zero => omega
  | succ m =>
   have hlt : (i : Int) < (n : Int) := by omega
   have hit : i < t.2.2.length := by omega
   have hir : i < r.length := by omega
   have h64 := mayT_len ht
   have next := ih m (i + 1) (fwd r t i) n (by omega) (by omega) (by rw [fwd_len]; exact hn) hr2 (mayT_fwd ht) (wfT_fwd hr hir hw hit)
   have hT := flow_Time_eq k (by omega) t i ht hw hit
   have hg := wfI_gt hw (show i <= t.2.2.length by omega)
   have hA := ivop_Mul_eq k (by omega) (hr _ (rtG_mem hir)) (wfI_dt hw hit)
   have hB := ivop_Mul_eq k (by omega) (hr _ (rtG_mem hir)) (wfI_mkI wfN_zN (wfI_dt hw hit).2)
   have sA := ivop_Add_eq k (by omega) hg (wfI_runA hr hir hw hit)
   have sB := ivop_Add_eq k (by omega) hg (wfI_runB hr hir hw hit)
   rw [fwds, <- next]
   obtain ⟨st, inn, l⟩ := t
   simp only at hit hT hA hB hn h64
   simp only [flow_Contract_s_l4, cond_t hlt, Bool.not_true, cond_false, hT, Option.bind_some, if_pos (Int.natCast_nonneg i), Int.toNat_natCast, slG_eq hit, rtG_eq hir, hA, hB, iv_Make_eq, set_self hit, List.set_set, wrap_succ (show i <= 1000000000 by omega)]
   cases i with
   | zero =>
    have c : ¬ ((0 : Nat) : Int) > 0 := by decide
    simp only [cond_f c]
    erw [sA]
    simp only [Option.bind_some, iv_Meet2 k _ _ (show 3 <= k by omega)]
    erw [sB]
    simp only [Option.bind_some, iv_Meet2 k _ _ (show 3 <= k by omega)]
    rfl
   | succ i =>
    have c : ((i + 1 : Nat) : Int) > 0 := by omega
    have hi1 : i < l.length := by omega
    have e : ∀ s : Sl, (l.set (i + 1) s)[i]? = some (slG l i) := fun s => by rw [List.getElem?_set_ne (by omega)]; exact slG_eq hi1
    simp only [cond_t c, wrap_pred (show i <= 1000000000 by omega), if_pos (Int.natCast_nonneg i), Int.toNat_natCast, slG_eq hi1, Option.bind_some, e]
    erw [sA]
    simp only [Option.bind_some, iv_Meet2 k _ _ (show 3 <= k by omega), set_self hit, e]
    erw [sB]
    simp only [Option.bind_some, iv_Meet2 k _ _ (show 3 <= k by omega), List.set_set]
    rfl
theorem bwdS_loop (k : Nat) (hk : 200 <= k) (r : List Iv) (hr : ∀ x ∈ r, wfI x) (D : Nm × Iv × List Sl) : ∀ (j m i : Nat) (t : Tb) (n : Nat), j < m -> i + j = n -> n = t.2.2.length -> n = r.length -> mayT t = true -> wfT t ->
  flow_Contract_s_l5 k m (((), (), (), (), (), (), (), (n : Int), (i : Int), ()), (r, (t.1, (t.2.1, ())), D, t.2.2, (), (), false, ())) = some (Sum.inl (((), (), (), ()), (r, ((bwds r j t).1, ((bwds r j t).2.1, ())), D, (bwds r j t).2.2, ()))) := by
 intro j
 induction j with
 | zero =>
  intro m i t n hm hi hn hr2 ht hw
  cases m with
  | zero => omega
  | succ m =>
   have : ¬ (i : Int) < (n : Int) := by omega
   simp only [flow_Contract_s_l5, cond_f this, bwds]
 | succ j ih =>
  intro m i t n hm hi hn hr2 ht hw
  cases m with
  | zero => omega
  | succ m =>
   have hlt : (i : Int) < (n : Int) := by omega
   have hit : j < t.2.2.length := by omega
   have hir : j < r.length := by omega
   have h64 := mayT_len ht
   have next := ih m (i + 1) (bwd r t j) n (by omega) (by omega) (by rw [bwd_len]; exact hn) hr2 (mayT_bwd ht hit) (wfT_bwd hr hir hw hit)
   have hT := flow_Time_eq k (by omega) t j ht hw hit
   have hg : wfI (slG t.2.2 j).2.2 := (hw.2.2 _ (slG_mem hit)).2.2
   have hA := ivop_Mul_eq k (by omega) (hr _ (rtG_mem hir)) (wfI_dt hw hit)
   have hB := ivop_Mul_eq k (by omega) (hr _ (rtG_mem hir)) (wfI_mkI wfN_zN (wfI_dt hw hit).2)
   have sA := ivop_Sub_eq k (by omega) hg (wfI_runA hr hir hw hit)
   have sB := ivop_Sub_eq k (by omega) hg (wfI_runB hr hir hw hit)
   rw [bwds, <- next]
   obtain ⟨st, inn, l⟩ := t
   simp only at hit hT hA hB hn h64 sA sB
   have ix : IntKind.i64.wrap (IntKind.i64.wrap ((l.length : Int) - 1) - (i : Int)) = (j : Int) := by
    rw [wrap_small (x := (l.length : Int) - 1) (by omega) (by omega), wrap_small (by omega) (by omega)]; omega
   simp only [flow_Contract_s_l5, cond_t hlt, Bool.not_false, cond_true, ix, hT, Option.bind_some, if_pos (Int.natCast_nonneg j), Int.toNat_natCast, slG_eq hit, rtG_eq hir, hA, hB, iv_Make_eq, List.set_set, wrap_succ (show i <= 1000000000 by omega)]
   cases j with
   | zero =>
    have c : ¬ ((0 : Nat) : Int) > 0 := by decide
    simp only [cond_f c]
    erw [sA]
    simp only [Option.bind_some, iv_Meet2 k _ _ (show 3 <= k by omega)]
    erw [sB]
    simp only [Option.bind_some, iv_Meet2 k _ _ (show 3 <= k by omega)]
    rfl
   | succ j =>
    have c : ((j + 1 : Nat) : Int) > 0 := by omega
    have hi1 : j < l.length := by omega
    have e : ∀ s : Sl, (l.set j s)[j + 1]? = some (slG l (j + 1)) := fun s => by rw [List.getElem?_set_ne (by omega)]; exact slG_eq hit
    simp only [cond_t c, wrap_pred (show j <= 1000000000 by omega), if_pos (Int.natCast_nonneg j), Int.toNat_natCast, slG_eq hi1, Option.bind_some]
    erw [sA]
    simp only [Option.bind_some, iv_Meet2 k _ _ (show 3 <= k by omega), e]
    erw [sB]
    simp only [Option.bind_some, iv_Meet2 k _ _ (show 3 <= k by omega)]
    rfl
theorem cfitS_loop (k : Nat) (hk : 3 <= k) (r : List Iv) (T : Tb) (D2 D : Nm × Iv × List Sl) (st : Nm) (inn : Iv) : ∀ (m : Nat) (s pre : List Sl) (g : Nm × Iv) (I : Nm × Iv × Unit) (A : List Sl), s.length + 1 < m -> pre.length + s.length <= 1000000 ->
  (A = match pre.getLast? with | none => s | some p => fitN pre.dropLast (some p) ++ p :: s) -> ∃ g',
  flow_Contract_s_l2 k m (((), (), (), (), (), (), (), (((pre ++ s).length + 1 : Nat) : Int), (pre.length : Int), (), (), ()), (r, T, D2, g, D, I, A, (st, inn, pre ++ s), ())) =
   some (Sum.inl (((), (), (), (), (), (), ()), (r, T, D2, D, ((I.1, (if pre = [] then nx g.2 s else I.2.1), ()), g', ())))) /\ g' = fitN (pre ++ s) none := by
 intro m
 induction m with
 | zero => intro s pre g I A hm; omega
 | succ m IH =>
  intro s pre g I A hm hl hA
  have hlt : (pre.length : Int) < (((pre ++ s).length + 1 : Nat) : Int) := by simp; omega
  have next : ∀ (g2' : Nm × Iv) (I2 : Nm × Iv × Unit) (A2 : List Sl), (s = [] -> A2 = fitN pre none) -> (∀ x q, s = x :: q -> A2 = fitN pre (some x) ++ x :: q) -> ∃ g', flow_Contract_s_l2 k m (((), (), (), (), (), (), (), (((pre ++ s).length + 1 : Nat) : Int), ((pre.length + 1 : Nat) : Int), (), (), ()), (r, T, D2, g2', D, I2, A2, (st, inn, pre ++ s), ())) =
   some (Sum.inl (((), (), (), (), (), (), ()), (r, T, D2, D, ((I2.1, I2.2.1, ()), g', ())))) /\ g' = fitN (pre ++ s) none := by
   intro g2' I2 A2 h1 h2
   cases s with
   | nil =>
    cases m with
    | zero => simp at hm
    | succ m =>
     have h3 : ¬ ((pre.length + 1 : Nat) : Int) < (((pre ++ []).length + 1 : Nat) : Int) := by simp
     refine ⟨A2, ?_, by simpa using h1 rfl⟩
     simp only [flow_Contract_s_l2]
     rw [cond_f h3]
   | cons y q =>
    simp only [List.length_cons] at hm hl
    obtain ⟨g', ih, e⟩ := IH q (pre ++ [y]) g2' I2 A2 (by omega) (by simp; omega) (by simpa using h2 y q rfl)
    rw [mid_eq, len_snoc] at ih
    rw [mid_eq] at e
    exact ⟨g', by rw [ih]; simp, e⟩
  simp only [flow_Contract_s_l2]
  rw [cond_t hlt, wrap_succ (show pre.length <= 1000000000 by omega)]
  rcases List.eq_nil_or_concat pre with rfl | ⟨pre, p, rfl⟩
  ·simp only [List.getLast?_nil] at hA
   subst hA
   have h0 : ¬ (([] : List Sl).length : Int) > 0 := by simp
   have h00 : ((([] : List Sl).length : Int) == 0) = true := rfl
   simp only [cond_f h0, h00, cond_true, if_true]
   cases A with
   | nil =>
    have h1 : ¬ (([] : List Sl).length : Int) < (([] ++ [] : List Sl).length : Int) := by simp
    simp only [cond_f h1, nx]
    exact next _ (I.1, g.2, ()) _ (fun _ => rfl) (fun _ _ h => by cases h)
   | cons y q =>
    have h1 : (([] : List Sl).length : Int) < (([] ++ y :: q : List Sl).length : Int) := by simp
    rw [cond_t h1, if_pos (Int.natCast_nonneg _), at_mid]
    simp only [Option.bind_some, nx, iv_Meet2 k _ _ hk]
    exact next _ (I.1, two g.2 y.2.1, ()) _ (fun h => by cases h) (fun x q h => by cases h; rfl)
  ·simp only [List.concat_eq_append] at *
   rw [len_snoc] at hl
   simp only [List.getLast?_append, List.getLast?_singleton, Option.some_or, List.dropLast_concat] at hA
   subst hA
   have h0 : (((pre ++ [p]).length : Nat) : Int) > 0 := by simp
   have h00 : (((pre ++ [p]).length : Int) == 0) = false := by rw [len_snoc]; exact beq_f (by omega)
   have hne : ¬ (pre ++ [p] = []) := by simp
   have e1 : IntKind.i64.wrap (((pre ++ [p]).length : Int) - 1) = (pre.length : Int) := by rw [len_snoc]; exact wrap_pred (by omega)
   have e2 : (pre ++ [p] ++ s)[Int.toNat (pre.length : Int)]? = some p := by rw [mid_eq]; exact at_mid _ _ _
   simp only [cond_t h0, h00, cond_false, e1, e2, if_pos (Int.natCast_nonneg pre.length), Option.bind_some, iv_Meet2 k _ _ hk, get_mid _ p s _ (fitN_len pre (some p)), set_mid _ p _ s _ (fitN_len pre (some p)), hne, if_false]
   cases s with
   | nil =>
    have h1 : ¬ ((pre ++ [p]).length : Int) < ((pre ++ [p] ++ [] : List Sl).length : Int) := by simp
    simp only [cond_f h1]
    exact next _ (I.1, I.2.1, ()) _ (fun _ => by rw [fitN_snoc]; rfl) (fun _ _ h => by cases h)
   | cons y q =>
    have h1 : ((pre ++ [p]).length : Int) < ((pre ++ [p] ++ y :: q : List Sl).length : Int) := by simp; omega
    simp only [cond_t h1, if_pos (Int.natCast_nonneg (pre ++ [p]).length), at_mid, Option.bind_some]
    exact next _ (I.1, I.2.1, ()) _ (fun h => by cases h) (fun x q h => by cases h; rw [fitN_snoc]; simp [g2])
theorem cvoidS_loop (k : Nat) (r : List Iv) (T : Tb) (D2 D3 D : Nm × Iv × List Sl) (I : Nm × Iv × Unit) : ∀ (m : Nat) (s pre : List Sl), s.length < m -> pre.length + s.length <= 1000000 ->
  flow_Contract_s_l3 k m (((), (), (), (), (), (), (), (), (((pre ++ s).length : Nat) : Int), (pre.length : Int), ()), (r, T, D2, D3, I, D, noneI, pre.map voidS ++ s, ())) = some (Sum.inl (((), (), (), (), (), (), (), ()), (r, T, D2, D3, I, D, (pre ++ s).map voidS, ()))) := by
 intro m
 induction m with
 | zero => intro s pre hm; omega
 | succ m IH =>
  intro s pre hm hl
  cases s with
  | nil => simp [flow_Contract_s_l3]
  | cons y s =>
   simp only [List.length_cons] at hm hl
   have ih := IH s (pre ++ [y]) (by omega) (by simp; omega)
   simp only [mid_eq, len_snoc] at ih
   simp only [flow_Contract_s_l3, cond_t (len_lt pre y s), if_pos (Int.natCast_nonneg pre.length), Option.bind_some, get_mid _ _ s pre.length (show (pre.map voidS).length = pre.length by simp), set_mid _ _ _ s pre.length (show (pre.map voidS).length = pre.length by simp), wrap_succ (show pre.length <= 1000000000 by omega)]
   rw [show pre.map voidS ++ (y.1, noneI, noneI) :: s = (pre ++ [y]).map voidS ++ s by simp [voidS], ih]
theorem ratesS_loop (k : Nat) (T : Tb) (D : Nm × Iv × List Sl) : ∀ (s pre : List Iv) (m : Nat), s.length < m -> pre.length + s.length <= 1000000 -> ∃ i : Nat,
  flow_Contract_s_l0 k m (((), (), ((pre ++ s).length : Int), (pre.length : Int), (), (), (), (), false, ()), (pre ++ s, T, D, ())) = some (bif s.all mayI then Sum.inr (Sum.inl (((), (), (), (), false, ()), (pre ++ s, T, D, ()))) else Sum.inl (((i : Int), (), (), (), (), false, ()), (pre ++ s, T, D, ())))
 | [], pre, m + 1, hm, hl => ⟨0, by simp [flow_Contract_s_l0]⟩
 | x :: s, pre, m + 1, hm, hl => by
  simp only [List.length_cons] at hm hl
  obtain ⟨i, ih⟩ := ratesS_loop k T D s (pre ++ [x]) m (by omega) (by simp; omega)
  rw [mid_eq, len_snoc] at ih
  cases hx : mayI x
  ·refine ⟨pre.length, ?_⟩
   simp only [flow_Contract_s_l0, cond_t (len_lt pre x s), if_pos (Int.natCast_nonneg pre.length), at_mid, Option.bind_some, flow_Contract_1, iv_May_eq, hx, List.all_cons, Bool.false_and, Bool.not_false, cond_true, cond_false]
  ·refine ⟨i, ?_⟩
   simp only [flow_Contract_s_l0, cond_t (len_lt pre x s), if_pos (Int.natCast_nonneg pre.length), at_mid, Option.bind_some, flow_Contract_1, iv_May_eq, hx, List.all_cons, Bool.true_and, Bool.not_true, cond_false, wrap_succ (show pre.length <= 1000000000 by omega)]
   exact ih
theorem contractS_eq (k : Nat) (hk : 200 <= k) (t : Tb) (r : List Iv) (hw : wfT t) (hr : ∀ x ∈ r, wfI x) : flow_Contract_s k (((), t, (), ()), (r, ())) = some (Sum.inl (((), (), (contractT t r).2, ()), (r, (contractT t r).1, ()))) := by
 simp only [flow_Contract_s, tube_May_eq k (show 100 <= k by omega), Option.bind_some, contractT]
 cases hm : mayT t
 ·rfl
 have hl := mayT_len hm
 rw [Bool.not_true, cond_false]
 by_cases hlen : r.length = t.2.2.length
 ·have e : ((r.length : Int) != (t.2.2.length : Int)) = false := by simp [hlen]
  rw [e, cond_false]
  obtain ⟨i, h0⟩ := ratesS_loop k t (zN, (false, zN, zN), []) r [] k (by omega) (by simp; omega)
  simp only [List.nil_append, List.length_nil] at h0
  rw [show ((0 : Nat) : Int) = 0 from rfl] at h0
  erw [h0]
  cases ha : r.all mayI
  ·simp
  ·simp only [cond_true, Option.bind_some, Sum.elim_inr, Sum.elim_inl, cond_false, hm, Bool.not_true, hlen, decide_true, Bool.and_self, if_true]
   have g1 : t.2.2.length * 176 <= 140737488355328 := by omega
   rw [if_pos g1, wrap_succ (show t.2.2.length <= 1000000000 by omega)]
   have hmU := mayT_fitU hm
   have hwU := wfT_fitU hw
   have hmF := mayT_fitT hm
   have hwF := wfT_fitT hw
   have hlF := fitT_len t
   obtain ⟨g', h2, rfl⟩ := cfitS_loop k (by omega) r t (zN, (false, zN, zN), []) (zN, (false, zN, zN), []) t.1 t.2.1 k t.2.2 [] (t.1, t.2.1) (t.1, (t.2.1, ())) t.2.2 (by omega) (by simp; omega) rfl
   simp only [List.nil_append, List.length_nil, if_true] at h2
   rw [show ((0 : Nat) : Int) = 0 from rfl] at h2
   erw [h2]
   simp only [Option.bind_some, Sum.elim_inl, tube_Empty_eq k (show 100 <= k by omega)]
   have hU : (t.1, nx t.2.1 t.2.2, fitN t.2.2 none) = fitU t := rfl
   have tail : ∀ u : Tb, u = fitT t -> (flow_Contract_s_l4 k k (((), (), (), (), (), (), (), (), (u.2.2.length : Int), 0, ()), (r, (u.1, (u.2.1, ())), (zN, (false, zN, zN), []), u.2.2, (), (), true, ()))).bind (fun q104 =>
      Sum.elim (fun z105 =>
       (flow_Contract_s_l5 k k (((), (), (), (), (), (), (), (z105.2.2.2.2.1.length : Int), 0, ()), (z105.2.1, (z105.2.2.1.1, (z105.2.2.1.2.1, ())), (z105.2.2.2.1.1, (z105.2.2.2.1.2.1, z105.2.2.2.1.2.2)), z105.2.2.2.2.1, (), (), false, ()))).bind fun q164 =>
       Sum.elim (fun z165 =>
        (tube_Fit k (z165.2.2.1.1, z165.2.2.1.2.1, z165.2.2.2.2.1)).bind fun r166 =>
        some (Sum.inl (((), (), 0, ()), (z165.2.1, r166.1, ()))))
        (fun q164' =>
        none) q164)
       (fun q104' =>
       none) q104) = (some (Sum.inl (((), (), 0, ()), (r, fitT (bwds r t.2.2.length (fwds r t.2.2.length 0 (fitT t))), ()))) : Option (denS flow_Contract_s_o)) := by
    intro u hu
    subst hu
    have f1 := fwdS_loop k hk r hr (zN, (false, zN, zN), []) t.2.2.length k 0 (fitT t) t.2.2.length (by omega) (by omega) hlF.symm hlen.symm hmF hwF
    rw [hlF]
    rw [show ((0 : Nat) : Int) = 0 from rfl] at f1
    rw [f1]
    have l1 := fwds_len r t.2.2.length 0 (fitT t)
    have f2 := bwdS_loop k hk r hr (zN, (false, zN, zN), []) t.2.2.length k 0 (fwds r t.2.2.length 0 (fitT t)) t.2.2.length (by omega) (by omega) (by rw [l1, hlF]) hlen.symm (mayT_fwds hmF) (wfT_fwds hr (by omega) (by rw [hlF]; exact hlen) hwF)
    rw [show ((0 : Nat) : Int) = 0 from rfl] at f2
    simp only [Option.bind_some, Sum.elim_inl, l1, hlF]
    erw [f2]
    simp only [Option.bind_some, Sum.elim_inl, tube_Fit_eq k hk]
   rw [hU, hmU]
   cases he : emptyT (fitU t)
   ·have hF : fitT t = (t.1, nx t.2.1 t.2.2, fitN t.2.2 none) := by unfold fitT; rw [if_pos hm, if_neg (by rw [he]; decide)]; rfl
    have := tail _ hF.symm
    simp only [Bool.not_true, Bool.or_self, cond_false]
    exact this
   ·have hF : fitT t = (t.1, noneI, t.2.2.map voidS) := by unfold fitT; rw [if_pos hm, if_pos he]
    have fl : (fitN t.2.2 none).length = t.2.2.length := fitN_len _ _
    have g2' : (fitN t.2.2 none).length * 176 <= 140737488355328 := by rw [fl]; exact g1
    have h3 := cvoidS_loop k r t (zN, (false, zN, zN), []) (zN, (false, zN, zN), []) (zN, (false, zN, zN), []) (t.1, (noneI, ())) k (fitN t.2.2 none) [] (by rw [fl]; omega) (by rw [fl]; simp; omega)
    simp only [List.nil_append, List.length_nil, List.map_nil] at h3
    rw [show ((0 : Nat) : Int) = 0 from rfl] at h3
    simp only [Bool.not_true, Bool.false_or, cond_true, iv_None_eq, Option.bind_some, if_pos g2']
    erw [h3]
    simp only [Option.bind_some, Sum.elim_inl]
    rw [fitN_ends]
    have := tail _ hF.symm
    exact this
 ·have e : ((r.length : Int) != (t.2.2.length : Int)) = true := by simp; omega
  rw [e, cond_true]
  simp [hlen]
abbrev Op := Int × Nm × Iv × Iv × Iv
structure En where
 t0 : Tb
 t1 : Tb
 b : Bool
 r0 : List Iv
 r1 : List Iv
 ops : List Op
 si : List Op
abbrev En.m (e : En) := ((((e.t0, ()), (e.t1, ())), (e.b, ((), ()))), e.r0, e.r1, e.ops, e.si, ())
def wfO (o : Op) : Prop := wfN o.2.1 /\ wfI o.2.2.1 /\ wfI o.2.2.2.1 /\ wfI o.2.2.2.2
structure WfE (e : En) : Prop where
 t0 : wfT e.t0
 t1 : wfT e.t1
 l0 : e.t0.2.2.length <= 64
 l1 : e.t1.2.2.length <= 64
 r0 : ∀ x ∈ e.r0, wfI x
 r1 : ∀ x ∈ e.r1, wfI x
 n0 : e.r0.length <= 1000
 n1 : e.r1.length <= 1000
 si : ∀ o ∈ e.si, wfO o
 ns : e.si.length <= 16
def fullI (x : Iv) : Bool := mayI x && !x.1
def mayO (o : Op) : Bool := decide (0 <= o.1) && decide (o.1 <= 3) && may o.2.1 && (o.2.1.1 != 2) && fullI o.2.2.1 && fullI o.2.2.2.1 && (if o.1 = 3 then fullI o.2.2.2.2 else decide (o.2.2.2.2 = zI))
def gateL (t : Tb) (n : Nm) : Int := match ((t.1, zI, zI) :: t.2.2).findIdx? (fun s => decide (s.1 = n)) with | some i => (i : Int) | none => -1
def gateE (e : En) (n : Nm) : Int := if e.b = false then -1 else if e.t0.1 = n then 0 else gateL e.t0 n
theorem full_eq (k : Nat) (x : Iv) : engine_full k x = some (fullI x, ()) := by
 simp only [engine_full, iv_May_eq, Option.bind_some, fullI]
 cases mayI x <;> rfl
theorem engine_may_eq (k : Nat) (o : Op) : engine_may k o = some (mayO o, ()) := by
 simp only [engine_may, full_eq, num_May_eq, Option.bind_some, mayO, beqI]
 by_cases h3 : o.1 = 3
 ·have a : (0 : Int) <= 3 := by decide
  simp only [h3, show ((3 : Int) == 3) = true from rfl, cond_true, cond_t (show (3 : Int) >= 0 by decide), cond_t (show (3 : Int) <= 3 by decide), if_true, a, decide_true, Int.le_refl, Bool.true_and]
  cases may o.2.1 <;> simp
  cases (o.2.1.1 != 2) <;> simp
  cases fullI o.2.2.1 <;> simp
  cases fullI o.2.2.2.1 <;> simp
 ·rw [beq_f h3, cond_false]
  simp only [if_neg h3]
  by_cases h0 : o.1 >= 0
  ·rw [cond_t h0, decide_eq_true (show 0 <= o.1 from h0)]
   by_cases h1 : o.1 <= 3
   ·rw [cond_t h1, decide_eq_true h1]
    cases may o.2.1 <;> simp
    cases (o.2.1.1 != 2) <;> simp
    cases fullI o.2.2.1 <;> simp
    cases fullI o.2.2.2.1 <;> simp
   ·rw [cond_f h1, decide_eq_false h1]; simp
  ·rw [cond_f h0, decide_eq_false (show ¬ 0 <= o.1 from h0)]; simp
theorem gate_loop (k : Nat) (e : En) (n : Nm) : ∀ (s pre : List Sl) (m : Nat), s.length < m -> pre.length + s.length <= 1000000 ->
  engine_Engine_gate_s1_l0 k m (((), (), ((pre ++ s).length : Int), (pre.length : Int), (), (), (), (), (), ()), ((((e.t0, ()), (e.t1, ())), (e.b, ((), ()))), e.r0, e.r1, e.ops, e.si, n, pre ++ s, ())) =
   some (match s.findIdx? (fun s => decide (s.1 = n)) with | some i => Sum.inl ((((pre.length + i : Nat) : Int), (), (), (), (), (), ()), e.m) | none => Sum.inr (Sum.inl (((), (), (), (), (), ()), e.m)))
 | [], pre, m + 1, _, _ => by
  have h : ¬ (pre.length : Int) < ((pre ++ []).length : Int) := by simp
  simp only [engine_Engine_gate_s1_l0, cond_f h]
  rfl
 | x :: s, pre, m + 1, hm, hl => by
  simp only [List.length_cons] at hm hl
  have ih := gate_loop k e n s (pre ++ [x]) m (by omega) (by simp; omega)
  rw [mid_eq, len_snoc] at ih
  simp only [engine_Engine_gate_s1_l0, cond_t (len_lt pre x s), if_pos (Int.natCast_nonneg pre.length), at_mid, Option.bind_some, beqN, wrap_succ (show pre.length <= 1000000000 by omega)]
  rw [List.findIdx?_cons]
  by_cases hx : x.1 = n
  ·rw [decide_eq_true hx]; rfl
  ·rw [decide_eq_false hx, cond_false, ih]
   simp only [Bool.false_eq_true, if_false]
   cases s.findIdx? (fun s => decide (s.1 = n)) with
   | none => rfl
   | some i => simp only [Option.map_some]; rw [show pre.length + 1 + i = pre.length + (i + 1) by omega]
theorem egate_eq (k : Nat) (hk : 100 <= k) (e : En) (hl : e.t0.2.2.length <= 64) (n : Nm) : engine_Engine_gate_s1 k (((), (), (), (), (), (), n, ()), e.m) = some (Sum.inl (((), (), (), (), (), gateE e n, ()), e.m)) := by
 obtain ⟨t0, t1, b, r0, r1, ops, si⟩ := e
 have hl : t0.2.2.length <= 64 := hl
 cases b
 ·rfl
 ·simp only [engine_Engine_gate_s1, beqN, gateE, Bool.not_true, cond_false, Bool.true_eq_false, if_false]
  by_cases h0 : t0.1 = n
  ·rw [decide_eq_true h0, cond_true, if_pos h0]
  ·rw [decide_eq_false h0, cond_false, if_neg h0]
   have hg : ([((t0.1, (false, (0, false, 0, 0), 0, false, 0, 0), false, (0, false, 0, 0), 0, false, 0, 0) : Sl)].length + t0.2.2.length) * 176 <= 140737488355328 := by simp; omega
   have hlp := gate_loop k ⟨t0, t1, true, r0, r1, ops, si⟩ n ((t0.1, zI, zI) :: t0.2.2) [] k (by simp; omega) (by simp; omega)
   simp only [List.nil_append, List.length_nil, Nat.zero_add] at hlp
   rw [show ((0 : Nat) : Int) = 0 from rfl] at hlp
   refine (if_pos hg).trans ?_
   erw [hlp]
   unfold gateL
   cases ((t0.1, zI, zI) :: t0.2.2).findIdx? (fun s => decide (s.1 = n)) with
   | none => simp only [Option.bind_some, Sum.elim_inr, Sum.elim_inl]
   | some i => simp only [Option.bind_some, Sum.elim_inl]
theorem both_eq (k : Nat) (hk : 100 <= k) (e : En) (o : Op) : engine_Engine_both_s k (((), (), (), (), (), (), (), o, (), ()), ((((e.t0, ()), (e.t1, ())), (e.b, ((), ()))), e.r0, e.r1, e.ops, o, e.si, ())) =
  some (Sum.inl (((), (), (), (), (), (), ()), (((((newT o.2.1 o.2.2.1).1, ()), ((newT o.2.1 o.2.2.2.1).1, ())), (e.b, ((), ()))), e.r0, e.r1, e.ops, o, e.si, ()))) := by
 simp only [engine_Engine_both_s, tube_New_eq k hk, Option.bind_some]
theorem grows_eq (k : Nat) (hk : 100 <= k) (e : En) (n : Nm) (x : Iv) (hn : e.r0.length <= 1000) : engine_side_grows_s k (((), (), (), (), (), (), n, x, ()), e.m) =
  some (Sum.inl (((), (), (), (), (appT e.t0 n allI allI).2, ()), if (appT e.t0 n allI allI).2 = 0 then En.m { e with t0 := (appT e.t0 n allI allI).1, r0 := e.r0 ++ [x] } else e.m)) := by
 simp only [engine_side_grows_s, iv_All_eq, Option.bind_some, tube_Append_eq k hk]
 by_cases h : (appT e.t0 n allI allI).2 = 0
 ·rw [beq_t h, cond_true, if_pos h, if_pos (by simp; omega)]
 ·rw [beq_f h, cond_false, if_neg h]
theorem grows1_eq (k : Nat) (hk : 100 <= k) (e : En) (n : Nm) (x : Iv) (hn : e.r1.length <= 1000) : engine_side_grows_s1 k (((), (), (), (), (), (), n, x, ()), e.m) =
  some (Sum.inl (((), (), (), (), (appT e.t1 n allI allI).2, ()), if (appT e.t1 n allI allI).2 = 0 then En.m { e with t1 := (appT e.t1 n allI allI).1, r1 := e.r1 ++ [x] } else e.m)) := by
 simp only [engine_side_grows_s1, iv_All_eq, Option.bind_some, tube_Append_eq k hk]
 by_cases h : (appT e.t1 n allI allI).2 = 0
 ·rw [beq_t h, cond_true, if_pos h, if_pos (by simp; omega)]
 ·rw [beq_f h, cond_false, if_neg h]
def setE (e : En) (g : Int) (x y : Iv) : En := { e with t0 := (setT e.t0 g x).1, t1 := (setT e.t1 g y).1 }
theorem set0_eq (k : Nat) (hk : 200 <= k) (e : En) (g : Int) (x : Iv) : engine_side_set_s k (((), (), (), (), (), (), g, x, ()), e.m) = some (Sum.inl (((), (), (), (), (), ()), En.m { e with t0 := (setT e.t0 g x).1 })) := by
 simp only [engine_side_set_s, tube_Set_eq k hk, Option.bind_some]
theorem set1_eq (k : Nat) (hk : 200 <= k) (e : En) (g : Int) (x : Iv) : engine_side_set_s1 k (((), (), (), (), (), (), g, x, ()), e.m) = some (Sum.inl (((), (), (), (), (), ()), En.m { e with t1 := (setT e.t1 g x).1 })) := by
 simp only [engine_side_set_s1, tube_Set_eq k hk, Option.bind_some]
theorem both1_eq (k : Nat) (hk : 200 <= k) (e : En) (o : Op) (g : Int) : engine_Engine_both_s1 k (((), (), (), (), (), (), (), o, (), ()), ((((e.t0, ()), (e.t1, ())), (e.b, ((), ()))), e.r0, e.r1, e.ops, g, e.si, ())) =
  some (Sum.inl (((), (), (), (), (), (), ()), (((((setE e g o.2.2.1 o.2.2.2.1).t0, ()), ((setE e g o.2.2.1 o.2.2.2.1).t1, ())), (e.b, ((), ()))), e.r0, e.r1, e.ops, g, e.si, ()))) := by
 simp only [engine_Engine_both_s1]
 erw [set0_eq k hk e g o.2.2.1]
 simp only [Option.bind_some, Sum.elim_inl]
 erw [set1_eq k hk { e with t0 := (setT e.t0 g o.2.2.1).1 } g o.2.2.2.1]
 rfl
def takeE (e : En) (o : Op) : En × Int :=
 if o.1 = 0 then (if e.b = true then (e, 1) else ({ e with b := true, t0 := (newT o.2.1 o.2.2.1).1, t1 := (newT o.2.1 o.2.2.2.1).1 }, 0))
 else if e.b = false then (e, 7)
 else if o.1 = 1 then
  (if (appT e.t0 o.2.1 allI allI).2 ≠ 0 then (e, (appT e.t0 o.2.1 allI allI).2)
   else if (appT e.t1 o.2.1 allI allI).2 ≠ 0 then ({ e with t0 := (appT e.t0 o.2.1 allI allI).1, r0 := e.r0 ++ [o.2.2.1] }, (appT e.t1 o.2.1 allI allI).2)
   else ({ e with t0 := (appT e.t0 o.2.1 allI allI).1, r0 := e.r0 ++ [o.2.2.1], t1 := (appT e.t1 o.2.1 allI allI).1, r1 := e.r1 ++ [o.2.2.2.1] }, 0))
 else if gateE e o.2.1 < 0 then (e, 7)
 else if o.1 = 2 then (setE e (gateE e o.2.1) o.2.2.1 o.2.2.2.1, 0)
 else if e.si.length >= 16 then (e, 3)
 else ({ e with si := e.si ++ [o] }, 0)
theorem take_eq (k : Nat) (hk : 200 <= k) (e : En) (hw : WfE e) (o : Op) : engine_Engine_take_s k (((), (), (), (), (), (), o, ()), e.m) = some (Sum.inl (((), (), (takeE e o).2, ()), (takeE e o).1.m)) := by
 have hgt := egate_eq k (by omega) e hw.l0 o.2.1
 have hn0 := hw.n0
 have hn1 := hw.n1
 have hns := hw.ns
 clear hw
 obtain ⟨t0, t1, b, r0, r1, ops, si⟩ := e
 simp only at hn0 hn1 hns
 simp only [engine_Engine_take_s]
 erw [hgt]
 simp only [Option.bind_some, Sum.elim_inl, takeE]
 by_cases h0 : o.1 = 0
 ·rw [beq_t h0, cond_true, if_pos h0, cond_true]
  cases b
  ·simp only [cond_false, Bool.false_eq_true, if_false]
   have := both_eq k (by omega) ⟨t0, t1, true, r0, r1, ops, si⟩ o
   erw [this]
   rfl
  ·simp only [cond_true, if_true]
 ·rw [beq_f h0, cond_false, if_neg h0, cond_false]
  cases b
  ·simp only [Bool.not_false, cond_true, if_true]
  ·simp only [Bool.not_true, cond_false, Bool.true_eq_false, if_false]
   by_cases h1 : o.1 = 1
   ·rw [beq_t h1, cond_true, if_pos h1]
    have g0 := grows_eq k (by omega) ⟨t0, t1, true, r0, r1, ops, si⟩ o.2.1 o.2.2.1 hn0
    erw [g0]
    simp only [Option.bind_some, Sum.elim_inl]
    by_cases a0 : (appT t0 o.2.1 allI allI).2 = 0
    ·have a0' : ((appT t0 o.2.1 allI allI).2 != 0) = false := by rw [a0]; rfl
     rw [if_pos a0, a0', cond_false, if_neg (fun h => h a0)]
     have g1 := grows1_eq k (by omega) ⟨(appT t0 o.2.1 allI allI).1, t1, true, r0 ++ [o.2.2.1], r1, ops, si⟩ o.2.1 o.2.2.2.1 hn1
     erw [g1]
     simp only [Option.bind_some, Sum.elim_inl]
     by_cases a1 : (appT t1 o.2.1 allI allI).2 = 0
     ·rw [if_pos a1, if_neg (fun h => h a1), a1]
     ·rw [if_neg a1, if_pos a1]
    ·have a0' : ((appT t0 o.2.1 allI allI).2 != 0) = true := bne_iff_ne.mpr a0
     rw [if_neg a0, a0', cond_true, if_pos a0]
   ·rw [beq_f h1, cond_false, if_neg h1]
    by_cases hg : gateE ⟨t0, t1, true, r0, r1, ops, si⟩ o.2.1 < 0
    ·rw [cond_t hg, if_pos hg]
    ·rw [cond_f hg, if_neg hg]
     by_cases h2 : o.1 = 2
     ·rw [beq_t h2, cond_true, if_pos h2]
      have g2 := both1_eq k hk ⟨t0, t1, true, r0, r1, ops, si⟩ o (gateE ⟨t0, t1, true, r0, r1, ops, si⟩ o.2.1)
      erw [g2]
      rfl
     ·rw [beq_f h2, cond_false, if_neg h2]
      by_cases h16 : si.length >= 16
      ·rw [cond_t (show ((si.length : Nat) : Int) >= 16 by omega), if_pos h16]
      ·rw [cond_f (show ¬ ((si.length : Nat) : Int) >= 16 by omega), if_neg h16, if_pos (by simp; omega)]
theorem slice_loop (k : Nat) : ∀ (m : Nat) (s s' pre pre' : List Sl), s.length < m -> pre.length + s.length <= 1000000 -> s.length = s'.length -> pre.length = pre'.length ->
  api_Slice_l0 k m ((pre ++ s, pre' ++ s', ((pre ++ s).length : Int), (pre.length : Int), ()), ()) = some (bif decide (s = s') then Sum.inr (Sum.inl ((), ())) else Sum.inl ((false, ()), ())) := by
 intro m
 induction m with
 | zero => intro s s' pre pre' hm; omega
 | succ m IH =>
  intro s s' pre pre' hm hl hs hp
  cases s with
  | nil =>
   cases s' with
   | nil => simp [api_Slice_l0]
   | cons => simp at hs
  | cons y s =>
   cases s' with
   | nil => simp at hs
   | cons z s' =>
    simp only [List.length_cons] at hm hl hs
    have ih := IH s s' (pre ++ [y]) (pre' ++ [z]) (by omega) (by simp; omega) (by omega) (by simp; omega)
    simp only [mid_eq, len_snoc] at ih
    simp only [api_Slice_l0, cond_t (len_lt pre y s), if_pos (Int.natCast_nonneg pre.length), at_mid, get_mid pre' z s' pre.length hp.symm, Option.bind_some, wrap_succ (show pre.length <= 1000000000 by omega), beqS]
    rw [ih]
    by_cases h : y = z
    ·simp [h]
    ·simp [h]
theorem slice_eq (k : Nat) (a b : List Sl) (h : a.length < k) (hl : a.length <= 1000000) : api_Slice k a b = some (decide (a = b), ()) := by
 simp only [api_Slice]
 by_cases h3 : a.length = b.length
 ·have h4 := slice_loop k k a b [] [] h (by simp; omega) h3 rfl
  simp only [List.nil_append, List.length_nil] at h4
  rw [show ((0 : Nat) : Int) = 0 from rfl] at h4
  have h5 : ((a.length : Int) != (b.length : Int)) = false := by simp [h3]
  rw [h5, cond_false, h4]
  by_cases h5 : a = b
  ·subst h5; simp
  ·simp [h5]
 ·have h4 : ((a.length : Int) != (b.length : Int)) = true := by simp; omega
  have h5 : ¬ a = b := fun e => h3 (by rw [e])
  simp [h4, h5]
def sameE (a b : Tb) : Bool := decide (a.2.1 = b.2.1) && decide (a.2.2 = b.2.2)
theorem engine_same_eq (k : Nat) (a b : Tb) (h : a.2.2.length < k) (hl : a.2.2.length <= 1000000) : engine_same k a b = some (sameE a b, ()) := by
 simp only [engine_same, beqI, sameE, slice_eq k a.2.2 b.2.2 h hl, Option.bind_some]
 cases decide (a.2.1 = b.2.1) <;> rfl
theorem wfT_bwds {r : List Iv} (hr : ∀ x ∈ r, wfI x) : ∀ {j : Nat} {t : Tb}, j <= r.length -> r.length = t.2.2.length -> wfT t -> wfT (bwds r j t)
 | 0, _, _, _, h => h
 | j + 1, t, h1, h2, h => wfT_bwds hr (j := j) (by omega) (by rw [bwd_len]; exact h2) (wfT_bwd hr (by omega) h (by omega))
theorem wfT_zT : wfT zT := ⟨wfN_zN, ⟨wfN_zN, wfN_zN⟩, fun s hs => by cases hs⟩
theorem wfT_contractT {t : Tb} {r : List Iv} (ht : wfT t) (hr : ∀ x ∈ r, wfI x) : wfT (contractT t r).1 := by
 unfold contractT
 split
 ·rename_i h
  simp only [Bool.and_eq_true, decide_eq_true_eq] at h
  have hl := h.1.2
  exact wfT_fitT (wfT_bwds hr (by omega) (by rw [fwds_len, fitT_len]; exact hl) (wfT_fwds hr (by omega) (by rw [fitT_len]; exact hl) (wfT_fitT ht)))
 ·exact wfT_zT
theorem contractT_len (t : Tb) (r : List Iv) : (contractT t r).1.2.2.length <= t.2.2.length := by
 unfold contractT
 split
 ·simp [fitT_len, bwds_len, fwds_len]
 ·simp
theorem wfT_setT {t : Tb} {i : Int} {x : Iv} (ht : wfT t) (hx : wfI x) : wfT (setT t i x).1 := by
 unfold setT
 split
 ·split
  ·exact wfT_zT
  ·split
   ·exact wfT_fitT ⟨ht.1, wfI_two ht.2.1 hx, ht.2.2⟩
   ·refine wfT_fitT ⟨ht.1, ht.2.1, fun s hs => ?_⟩
    unfold setO at hs
    split at hs
    ·rename_i y hy
     have hm := List.mem_of_getElem? hy
     rcases List.mem_or_eq_of_mem_set hs with h | h
     ·exact ht.2.2 s h
     ·rw [h]; exact ⟨(ht.2.2 y hm).1, (ht.2.2 y hm).2.1, wfI_two (ht.2.2 y hm).2.2 hx⟩
    ·exact ht.2.2 s hs
 ·exact wfT_zT
theorem wfI_allI : wfI allI := ⟨wfN_inf _, wfN_inf _⟩
theorem wfT_appT {t : Tb} {n : Nm} (ht : wfT t) (hn : wfN n) : wfT (appT t n allI allI).1 := by
 unfold appT
 split
 ·split
  ·exact wfT_zT
  ·split
   ·exact wfT_zT
   ·refine ⟨ht.1, ht.2.1, fun s hs => ?_⟩
    rcases List.mem_append.1 hs with h | h
    ·exact ht.2.2 s h
    ·rw [List.mem_singleton.1 h]; exact ⟨hn, wfI_allI, wfI_allI⟩
 ·exact wfT_zT
theorem appT_len64 {t : Tb} {n : Nm} : (appT t n allI allI).1.2.2.length <= 64 := by
 unfold appT
 split
 ·split
  ·simp
  ·split
   ·simp
   ·simp; omega
 ·simp
theorem wfT_newT {n : Nm} {x : Iv} (hn : wfN n) (hx : wfI x) : wfT (newT n x).1 := by
 unfold newT
 split
 ·exact ⟨hn, hx, fun s hs => by cases hs⟩
 ·exact wfT_zT
theorem wfI_gateT {t : Tb} (ht : wfT t) (i : Int) : wfI (gateT t i) := by
 unfold gateT
 split
 ·split
  ·exact ht.2.1
  ·cases hq : t.2.2[(i - 1).toNat]? with
   | none => exact wfI_none
   | some s => exact (ht.2.2 s (List.mem_of_getElem? hq)).2.2
 ·exact wfI_none
theorem WfE.setE {e : En} (h : WfE e) {g : Int} {x y : Iv} (hx : wfI x) (hy : wfI y) : WfE (setE e g x y) where
 t0 := wfT_setT h.t0 hx
 t1 := wfT_setT h.t1 hy
 l0 := Nat.le_trans (setT_len _ _ _) h.l0
 l1 := Nat.le_trans (setT_len _ _ _) h.l1
 r0 := h.r0
 r1 := h.r1
 n0 := h.n0
 n1 := h.n1
 si := h.si
 ns := h.ns
def flowsE (e : En) : En := { e with t0 := (contractT e.t0 e.r0).1, t1 := (contractT e.t1 e.r1).1 }
theorem WfE.flows {e : En} (h : WfE e) : WfE (flowsE e) where
 t0 := wfT_contractT h.t0 h.r0
 t1 := wfT_contractT h.t1 h.r1
 l0 := Nat.le_trans (contractT_len _ _) h.l0
 l1 := Nat.le_trans (contractT_len _ _) h.l1
 r0 := h.r0
 r1 := h.r1
 n0 := h.n0
 n1 := h.n1
 si := h.si
 ns := h.ns
def seeL (e : En) (o : Op) : List Iv := distT (gateT e.t0 (gateE e o.2.1)) (gateT e.t1 (gateE e o.2.1)) o.2.2.1 o.2.2.2.1 o.2.2.2.2
def seeE (e : En) (o : Op) : En := setE e (gateE e o.2.1) ((seeL e o).getD 0 noneI) ((seeL e o).getD 1 noneI)
theorem getD_all {l : List Iv} {p : Iv -> Prop} (h : ∀ x ∈ l, p x) (h0 : p noneI) (i : Nat) : p (l.getD i noneI) := by
 rw [List.getD_eq_getElem?_getD]
 cases hq : l[i]? with
 | none => exact h0
 | some x => exact h x (List.mem_of_getElem? hq)
theorem wf_seeL {e : En} (h : WfE e) {o : Op} (ho : wfO o) : ∀ x ∈ seeL e o, wfI x := wfI_distT (wfI_gateT h.t0 _) (wfI_gateT h.t1 _) ho.2.1 ho.2.2.1 ho.2.2.2
theorem WfE.see {e : En} (h : WfE e) {o : Op} (ho : wfO o) : WfE (seeE e o) := h.setE (getD_all (wf_seeL h ho) wfI_none _) (getD_all (wf_seeL h ho) wfI_none _)
theorem flows_eq (k : Nat) (hk : 200 <= k) (e : En) (h : WfE e) : engine_side_flows_s k (((), (), (), (), (), (), ()), e.m) = some (Sum.inl (((), (), (), (), (), ()), En.m { e with t0 := (contractT e.t0 e.r0).1 })) := by
 simp only [engine_side_flows_s]
 erw [contractS_eq k hk e.t0 e.r0 h.t0 h.r0]
 rfl
theorem flows1_eq (k : Nat) (hk : 200 <= k) (e : En) (ht : wfT e.t1) (hr : ∀ x ∈ e.r1, wfI x) : engine_side_flows_s1 k (((), (), (), (), (), (), ()), e.m) = some (Sum.inl (((), (), (), (), (), ()), En.m { e with t1 := (contractT e.t1 e.r1).1 })) := by
 simp only [engine_side_flows_s1]
 erw [contractS_eq k hk e.t1 e.r1 ht hr]
 rfl
theorem see_loop (x y : Tb) : ∀ (s pre : List Op) (e : En), WfE e -> e.si = pre ++ s -> ∃ K, ∀ k, K <= k -> ∀ m, s.length < m ->
  engine_Engine_round_s_l0 k m (((), (), (), (), (), (), (), (), (), ((pre ++ s).length : Int), (pre.length : Int), ()), ((((e.t0, ()), (e.t1, ())), (e.b, ((), ()))), e.r0, e.r1, e.ops, e.si, x, y, ())) =
   some (Sum.inl (((), (), (), (), (), (), (), (), ()), (((((s.foldl seeE e).t0, ()), ((s.foldl seeE e).t1, ())), ((s.foldl seeE e).b, ((), ()))), (s.foldl seeE e).r0, (s.foldl seeE e).r1, (s.foldl seeE e).ops, (s.foldl seeE e).si, x, y, ()))) := by
 intro s
 induction s with
 | nil =>
  intro pre e _ _
  refine ⟨0, fun k _ m hm => ?_⟩
  obtain ⟨m, rfl⟩ : ∃ i, m = i + 1 := ⟨m - 1, by omega⟩
  have h : ¬ (pre.length : Int) < ((pre ++ []).length : Int) := by simp
  simp only [engine_Engine_round_s_l0, cond_f h, List.foldl_nil]
 | cons o s ih =>
  intro pre e hw hs
  have hns := hw.ns
  rw [hs] at hns
  have hpl : pre.length + s.length + 1 <= 16 := by simp at hns; omega
  have ho : wfO o := hw.si o (by rw [hs]; simp)
  obtain ⟨K1, h1⟩ := ih (pre ++ [o]) (seeE e o) (hw.see ho) (by rw [mid_eq]; exact hs)
  rw [mid_eq, len_snoc] at h1
  obtain ⟨K2, h2⟩ := Distance_eq (wfI_gateT hw.t0 (gateE e o.2.1)) (wfI_gateT hw.t1 (gateE e o.2.1)) ho.2.1 ho.2.2.1 ho.2.2.2
  refine ⟨K1 + K2 + 200, fun k hk m hm => ?_⟩
  simp only [List.length_cons] at hm
  obtain ⟨m, rfl⟩ : ∃ i, m = i + 1 := ⟨m - 1, by omega⟩
  have e1 := h1 k (by omega) m (by omega)
  have hget : e.si[Int.toNat (pre.length : Int)]? = some o := by rw [hs]; exact at_mid _ _ _
  have hl5 : (seeL e o).length = 5 := distT_len _ _ _ _ _
  have g0 : (seeL e o)[Int.toNat ((0 : Nat) : Int)]? = some ((seeL e o).getD 0 noneI) := by
   rw [List.getD_eq_getElem?_getD, Int.toNat_natCast, List.getElem?_eq_getElem (by omega)]; rfl
  have g1 : (seeL e o)[Int.toNat ((1 : Nat) : Int)]? = some ((seeL e o).getD 1 noneI) := by
   rw [List.getD_eq_getElem?_getD, Int.toNat_natCast, List.getElem?_eq_getElem (by omega)]; rfl
  simp only [engine_Engine_round_s_l0, cond_t (len_lt pre o s), if_pos (Int.natCast_nonneg pre.length), hget, Option.bind_some]
  erw [egate_eq k (by omega) e hw.l0 o.2.1]
  simp only [Option.bind_some, Sum.elim_inl, tube_Gate_eq k (show 100 <= k by omega)]
  erw [h2 k (by omega)]
  simp only [Option.bind_some]
  rw [if_pos (Nat.le_refl 0)]
  refine (congrArg (fun z => Option.bind z _) (show _ = _ from g0)).trans ?_
  simp only [Option.bind_some]
  erw [set0_eq k (by omega) e (gateE e o.2.1) ((seeL e o).getD 0 noneI)]
  simp only [Option.bind_some, Sum.elim_inl]
  rw [if_pos (Nat.zero_le 1)]
  refine (congrArg (fun z => Option.bind z _) (show _ = _ from g1)).trans ?_
  simp only [Option.bind_some]
  erw [set1_eq k (by omega) { e with t0 := (setT e.t0 (gateE e o.2.1) ((seeL e o).getD 0 noneI)).1 } (gateE e o.2.1) ((seeL e o).getD 1 noneI)]
  simp only [Option.bind_some, Sum.elim_inl, wrap_succ (show pre.length <= 1000000000 by omega), List.foldl_cons]
  exact e1
def roundE (e : En) : En := e.si.foldl seeE (flowsE e)
def movedE (e e' : En) : Bool := !sameE e.t0 e'.t0 || !sameE e.t1 e'.t1
theorem WfE.sees : ∀ {s : List Op} {e : En}, WfE e -> (∀ o ∈ s, wfO o) -> WfE (s.foldl seeE e)
 | [], _, h, _ => h
 | o :: s, e, h, hs => WfE.sees (s := s) (h.see (hs o (by simp))) (fun o' h' => hs o' (by simp [h']))
theorem WfE.round {e : En} (h : WfE e) : WfE (roundE e) := WfE.sees h.flows h.si
theorem round_eq (e : En) (h : WfE e) : ∃ K, ∀ k, K <= k -> engine_Engine_round_s k (((), (), (), (), (), (), ()), e.m) = some (Sum.inl (((), (), (), (), (), movedE e (roundE e), ()), (roundE e).m)) := by
 obtain ⟨K, hl⟩ := see_loop e.t0 e.t1 e.si [] (flowsE e) h.flows rfl
 refine ⟨K + 200, fun k hk => ?_⟩
 have e1 := hl k (by omega) k (by have := h.ns; omega)
 simp only [List.nil_append, List.length_nil] at e1
 rw [show ((0 : Nat) : Int) = 0 from rfl] at e1
 simp only [engine_Engine_round_s]
 erw [flows_eq k (by omega) e h]
 simp only [Option.bind_some, Sum.elim_inl]
 erw [flows1_eq k (by omega) { e with t0 := (contractT e.t0 e.r0).1 } h.t1 h.r1]
 simp only [Option.bind_some, Sum.elim_inl]
 erw [e1]
 have hl0 := h.l0
 have hl1 := h.l1
 simp only [Option.bind_some, Sum.elim_inl]
 erw [engine_same_eq k e.t0 (roundE e).t0 (by omega) (by omega)]
 simp only [Option.bind_some, movedE]
 cases sameE e.t0 (roundE e).t0
 ·rfl
 ·simp only [Bool.not_true, cond_false, Bool.false_or]
  erw [engine_same_eq k e.t1 (roundE e).t1 (by omega) (by omega)]
  rfl
def roundsE : Nat -> En -> En
 | 0, e => e
 | n + 1, e => if movedE e (roundE e) = true then roundsE n (roundE e) else roundE e
theorem WfE.rounds : ∀ {n : Nat} {e : En}, WfE e -> WfE (roundsE n e)
 | 0, _, h => h
 | n + 1, e, h => by
  unfold roundsE
  split
  ·exact WfE.rounds h.round
  ·exact h.round
theorem rounds_loop : ∀ (n : Nat) (i : Nat) (e : En), WfE e -> i + n = 8 -> ∃ K, ∀ k, K <= k -> ∀ m, n < m -> engine_Engine_Do_s_l0 k m (((), (), (i : Int), ()), e.m) = some (Sum.inl (((), ()), (roundsE n e).m)) := by
 intro n
 induction n with
 | zero =>
  intro i e h hi
  refine ⟨0, fun k _ m hm => ?_⟩
  obtain ⟨m, rfl⟩ : ∃ j, m = j + 1 := ⟨m - 1, by omega⟩
  have : ¬ (i : Int) < 8 := by omega
  simp only [engine_Engine_Do_s_l0, cond_f this]
  rfl
 | succ n ih =>
  intro i e h hi
  obtain ⟨K1, h1⟩ := round_eq e h
  obtain ⟨K2, h2⟩ := ih (i + 1) (roundE e) h.round (by omega)
  refine ⟨K1 + K2, fun k hk m hm => ?_⟩
  obtain ⟨m, rfl⟩ : ∃ j, m = j + 1 := ⟨m - 1, by omega⟩
  have hlt : (i : Int) < 8 := by omega
  simp only [engine_Engine_Do_s_l0, cond_t hlt]
  erw [h1 k (by omega)]
  simp only [Option.bind_some, Sum.elim_inl, roundsE]
  cases hm : movedE e (roundE e)
  ·simp only [Bool.not_false, cond_true, Bool.false_eq_true, if_false]
  ·simp only [Bool.not_true, cond_false, if_true, wrap_succ (show i <= 1000000000 by omega)]
   exact h2 k (by omega) m (by omega)
def doE (e : En) (o : Op) : En × Int :=
 if mayO o = false then (e, 1)
 else if e.ops.length >= 256 then (e, 3)
 else if (takeE e o).2 ≠ 0 then takeE e o
 else (roundsE 8 { (takeE e o).1 with ops := (takeE e o).1.ops ++ [o] }, 0)
theorem WfE.take {e : En} (h : WfE e) {o : Op} (ho : wfO o) (hn : e.r0.length < 1000 /\ e.r1.length < 1000) : WfE (takeE e o).1 := by
 unfold takeE
 split
 ·split
  ·exact h
  ·exact { h with t0 := wfT_newT ho.1 ho.2.1, t1 := wfT_newT ho.1 ho.2.2.1, l0 := by show (newT _ _).1.2.2.length <= 64; rw [newT_len]; omega, l1 := by show (newT _ _).1.2.2.length <= 64; rw [newT_len]; omega }
 ·split
  ·exact h
  ·split
   ·split
    ·exact h
    ·have hr0 : ∀ x ∈ e.r0 ++ [o.2.2.1], wfI x := fun x hx => by
      rcases List.mem_append.1 hx with hx | hx
      ·exact h.r0 x hx
      ·rw [List.mem_singleton.1 hx]; exact ho.2.1
     have hr1 : ∀ x ∈ e.r1 ++ [o.2.2.2.1], wfI x := fun x hx => by
      rcases List.mem_append.1 hx with hx | hx
      ·exact h.r1 x hx
      ·rw [List.mem_singleton.1 hx]; exact ho.2.2.1
     have hn0 : (e.r0 ++ [o.2.2.1]).length <= 1000 := by simp; omega
     have hn1 : (e.r1 ++ [o.2.2.2.1]).length <= 1000 := by simp; omega
     split
     ·exact { h with t0 := wfT_appT h.t0 ho.1, l0 := appT_len64, r0 := hr0, n0 := hn0 }
     ·exact { h with t0 := wfT_appT h.t0 ho.1, l0 := appT_len64, r0 := hr0, n0 := hn0, t1 := wfT_appT h.t1 ho.1, l1 := appT_len64, r1 := hr1, n1 := hn1 }
   ·split
    ·exact h
    ·split
     ·exact h.setE ho.2.1 ho.2.2.1
     ·split
      ·exact h
      ·refine { h with si := fun x hx => ?_, ns := ?_ }
       ·rcases List.mem_append.1 hx with hx | hx
        ·exact h.si x hx
        ·rw [List.mem_singleton.1 hx]; exact ho
       ·show (e.si ++ [o]).length <= 16
        simp; omega
theorem do_eq (e : En) (h : WfE e) (o : Op) (ho : wfO o) (hn : e.r0.length < 1000 /\ e.r1.length < 1000) (hops : e.ops.length <= 1000) : ∃ K, ∀ k, K <= k -> engine_Engine_Do_s k (((), (), o, ()), e.m) = some (Sum.inl (((), (doE e o).2, ()), (doE e o).1.m)) := by
 have ht := h.take ho hn
 have hp : (takeE e o).1.ops = e.ops := by unfold takeE; repeat' split <;> try rfl
 have ht' : WfE { (takeE e o).1 with ops := (takeE e o).1.ops ++ [o] } := { ht with }
 obtain ⟨K, hl⟩ := rounds_loop 8 0 _ ht' rfl
 refine ⟨K + 200, fun k hk => ?_⟩
 simp only [engine_Engine_Do_s, engine_may_eq, Option.bind_some, doE]
 cases hm : mayO o
 ·simp only [Bool.not_false, cond_true, if_true]
 ·simp only [Bool.not_true, cond_false, Bool.true_eq_false, if_false]
  by_cases h256 : e.ops.length >= 256
  ·rw [cond_t (show ((e.ops.length : Nat) : Int) >= 256 by omega), if_pos h256]
  ·rw [cond_f (show ¬ ((e.ops.length : Nat) : Int) >= 256 by omega), if_neg h256]
   erw [take_eq k (by omega) e h o]
   simp only [Option.bind_some, Sum.elim_inl]
   by_cases hz : (takeE e o).2 = 0
   ·have hz' : ((takeE e o).2 != 0) = false := by rw [hz]; rfl
    have hnz : ¬ (takeE e o).2 ≠ 0 := fun h => h hz
    rw [hz', cond_false]
    simp only [if_neg hnz]
    have hb : ((takeE e o).1.ops.length + [o].length) * 256 <= 140737488355328 := by rw [hp]; simp; omega
    refine (if_pos hb).trans ?_
    have e2 := hl k (by omega) k (by omega)
    rw [show ((0 : Nat) : Int) = 0 from rfl] at e2
    erw [e2]
    simp only [Option.bind_some, Sum.elim_inl]
   ·have hz' : ((takeE e o).2 != 0) = true := bne_iff_ne.mpr hz
    rw [hz', cond_true, if_pos hz]
structure J (e : En) : Prop where
 wf : WfE e
 no : e.ops.length <= 256
 off : e.b = false -> e.si = [] /\ e.r0 = [] /\ e.r1 = []
 m0 : e.b = true -> mayT e.t0 = true
 m1 : e.b = true -> mayT e.t1 = true
 same : e.b = true -> sameT e.t1 e.t0 = true
 n0 : e.b = true -> e.r0.length = e.t0.2.2.length
 n1 : e.b = true -> e.r1.length = e.t1.2.2.length
 a0 : ∀ x ∈ e.r0, mayI x = true
 a1 : ∀ x ∈ e.r1, mayI x = true
 ga : e.b = true -> ∀ o ∈ e.si, 0 <= gateE e o.2.1
theorem sameT_iff {a b : Tb} : sameT a b = true ↔ a.1 = b.1 /\ ends a.2.2 = ends b.2.2 := by simp [sameT]
theorem gateL_ends (t : Tb) (n : Nm) : gateL t n = match (t.1 :: ends t.2.2).findIdx? (fun x => decide (x = n)) with | some i => (i : Int) | none => -1 := by
 unfold gateL
 have : (t.1 :: ends t.2.2) = ((t.1, zI, zI) :: t.2.2).map (fun s : Sl => s.1) := rfl
 rw [this, List.findIdx?_map]
 rfl
theorem gateE_congr {e e' : En} (hb : e'.b = e.b) (h : sameT e'.t0 e.t0 = true) (n : Nm) : gateE e' n = gateE e n := by
 obtain ⟨h1, h2⟩ := sameT_iff.1 h
 unfold gateE
 rw [hb, h1, gateL_ends, gateL_ends, h1, h2]
theorem gateE_le (e : En) (n : Nm) : gateE e n <= e.t0.2.2.length := by
 unfold gateE
 split
 ·omega
 ·split
  ·omega
  ·unfold gateL
   split
   ·rename_i i hi
    have := (List.findIdx?_eq_some_iff_findIdx_eq.1 hi).1
    simp at this
    omega
   ·omega
theorem ends_len (l : List Sl) : (ends l).length = l.length := by simp [ends]
theorem sameT_len' {a b : Tb} (h : sameT a b = true) : a.2.2.length = b.2.2.length := by
 have := (sameT_iff.1 h).2
 rw [<- ends_len a.2.2, this, ends_len]
structure L (e e' : En) : Prop where
 b : e'.b = e.b
 r0 : e'.r0 = e.r0
 r1 : e'.r1 = e.r1
 ops : e'.ops = e.ops
 si : e'.si = e.si
 w0 : withinT e'.t0 e.t0 = true
 w1 : withinT e'.t1 e.t1 = true
theorem withinT_parts {a b : Tb} (h : withinT a b = true) : mayT a = true /\ mayT b = true /\ sameT a b = true /\ (emptyT a = true \/ (allW a.2.2 b.2.2 = true /\ within a.2.1 b.2.1 = true)) := by
 simpa [withinT, timesT, and_assoc] using h
theorem withinT_of {a b : Tb} (h1 : mayT a = true) (h2 : mayT b = true) (h3 : sameT a b = true) (h4 : emptyT a = true \/ (allW a.2.2 b.2.2 = true /\ within a.2.1 b.2.1 = true)) : withinT a b = true := by
 simpa [withinT, timesT, and_assoc] using ⟨h1, h2, h3, h4⟩
theorem sameT_trans {a b c : Tb} (h1 : sameT a b = true) (h2 : sameT b c = true) : sameT a c = true := by
 rw [sameT_iff] at *
 exact ⟨h1.1.trans h2.1, h1.2.trans h2.2⟩
theorem sameT_symm {a b : Tb} (h1 : sameT a b = true) : sameT b a = true := by
 rw [sameT_iff] at *
 exact ⟨h1.1.symm, h1.2.symm⟩
theorem within_empty {a b : Iv} (ha : mayI a = true) (h : within a b = true) (hb : b.1 = true) : a.1 = true := by
 rcases within_iff.1 h with h1 | h1
 ·rwa [fairI_may ha] at h1
 ·rw [mayI_fst hb] at h1; exact absurd h1.1 (by decide)
theorem allW_any : ∀ {l m : List Sl}, l.length = m.length -> allW l m = true -> (∀ s ∈ l, mayI s.2.1 = true /\ mayI s.2.2 = true) -> m.any (fun s => s.2.1.1 || s.2.2.1) = true -> l.any (fun s => s.2.1.1 || s.2.2.1) = true
 | [], [], _, _, _, h => h
 | [], _ :: _, hl, _, _, _ => by simp at hl
 | _ :: _, [], hl, _, _, _ => by simp at hl
 | x :: l, y :: m, hl, hw, hm, h => by
  simp only [allW, Bool.and_eq_true, wiS] at hw
  simp only [List.any_cons, Bool.or_eq_true] at h ⊢
  have hx := hm x (by simp)
  rcases h with (h | h) | h
  ·exact .inl (.inl (within_empty hx.1 hw.1.1 h))
  ·exact .inl (.inr (within_empty hx.2 hw.1.2 h))
  ·have := allW_any (by simpa using hl) hw.2 (fun s hs => hm s (by simp [hs])) h
   exact .inr this
theorem mayT_all {t : Tb} (h : mayT t = true) : mayI t.2.1 = true /\ ∀ s ∈ t.2.2, mayI s.2.1 = true /\ mayI s.2.2 = true := by
 simp only [mayT, Bool.and_eq_true, decide_eq_true_eq] at h
 exact ⟨h.1.1.2, okS_mem h.2⟩
theorem withinT_empty {a b : Tb} (h : withinT a b = true) (hb : emptyT b = true) : emptyT a = true := by
 obtain ⟨h1, h2, h3, h4⟩ := withinT_parts h
 rcases h4 with h4 | ⟨h4, h5⟩
 ·exact h4
 ·have hm := mayT_all h1
  unfold emptyT at hb ⊢
  rw [Bool.or_eq_true] at hb ⊢
  rcases hb with hb | hb
  ·exact .inl (within_empty hm.1 h5 hb)
  ·exact .inr (allW_any (sameT_len' h3) h4 hm.2 hb)
theorem withinT_trans {a b c : Tb} (h : withinT a b = true) (h' : withinT b c = true) : withinT a c = true := by
 obtain ⟨h1, h2, h3, h4⟩ := withinT_parts h
 obtain ⟨g1, g2, g3, g4⟩ := withinT_parts h'
 refine withinT_of h1 g2 (sameT_trans h3 g3) ?_
 rcases g4 with g4 | ⟨g4, g5⟩
 ·exact .inl (withinT_empty h g4)
 ·rcases h4 with h4 | ⟨h4, h5⟩
  ·exact .inl h4
  ·exact .inr ⟨allW_trans _ _ _ (sameT_len' h3) (sameT_len' g3) h4 g4, within_trans h5 g5⟩
theorem withinT_refl {a : Tb} (h : mayT a = true) : withinT a a = true := withinT_of h h (sameT_iff.2 ⟨rfl, rfl⟩) (.inr ⟨allW_refl _, within_refl _⟩)
theorem L.trans {a b c : En} (h : L a b) (g : L b c) : L a c :=
 ⟨g.b.trans h.b, g.r0.trans h.r0, g.r1.trans h.r1, g.ops.trans h.ops, g.si.trans h.si, withinT_trans g.w0 h.w0, withinT_trans g.w1 h.w1⟩
theorem J.le {e e' : En} (h : J e) (hb : e.b = true) (hw : WfE e') (l : L e e') : J e' := by
 obtain ⟨a1, a2, a3, _⟩ := withinT_parts l.w0
 obtain ⟨b1, b2, b3, _⟩ := withinT_parts l.w1
 have hb' : e'.b = true := l.b.trans hb
 exact {
  wf := hw
  no := by rw [l.ops]; exact h.no
  off := fun h => by rw [hb'] at h; cases h
  m0 := fun _ => a1
  m1 := fun _ => b1
  same := fun _ => sameT_trans b3 (sameT_trans (h.same hb) (sameT_symm a3))
  n0 := fun _ => by rw [l.r0, h.n0 hb, sameT_len' a3]
  n1 := fun _ => by rw [l.r1, h.n1 hb, sameT_len' b3]
  a0 := by rw [l.r0]; exact h.a0
  a1 := by rw [l.r1]; exact h.a1
  ga := fun _ o ho => by rw [gateE_congr l.b a3]; exact h.ga hb o (by rw [<- l.si]; exact ho) }
theorem setT_ok {t : Tb} {i : Int} {x : Iv} (h : mayT t = true) (hx : mayI x = true) (h0 : 0 <= i) (h1 : i <= t.2.2.length) : (setT t i x).2 = 0 := by
 unfold setT
 rw [if_pos (by rw [h, hx]; rfl), if_neg (by omega)]
 split <;> rfl
theorem setE_L {e : En} (h : J e) (hb : e.b = true) {n : Nm} {x y : Iv} (hx : mayI x = true) (hy : mayI y = true) (hg : 0 <= gateE e n) : L e (setE e (gateE e n) x y) := by
 have hle := gateE_le e n
 have hl := sameT_len' (h.same hb)
 exact ⟨rfl, rfl, rfl, rfl, rfl, (setT_laws (setT_ok (h.m0 hb) hx hg hle)).1, (setT_laws (setT_ok (h.m1 hb) hy hg (by omega))).1⟩
theorem contractT_ok {t : Tb} {r : List Iv} (h : mayT t = true) (hl : r.length = t.2.2.length) (hr : ∀ x ∈ r, mayI x = true) : (contractT t r).2 = 0 := by
 unfold contractT
 rw [if_pos]
 simp only [Bool.and_eq_true, decide_eq_true_eq, List.all_eq_true]
 exact ⟨⟨h, hl⟩, hr⟩
theorem flows_L {e : En} (h : J e) (hb : e.b = true) : L e (flowsE e) :=
 ⟨rfl, rfl, rfl, rfl, rfl, (contract_within (contractT_ok (h.m0 hb) (h.n0 hb) h.a0)).2, (contract_within (contractT_ok (h.m1 hb) (h.n1 hb) h.a1)).2⟩
theorem see_L {e : En} (h : J e) (hb : e.b = true) {o : Op} (ho : o ∈ e.si) : L e (seeE e o) :=
 setE_L h hb (getD_all (p := fun x => mayI x = true) distT_may mayI_noneI 0) (getD_all (p := fun x => mayI x = true) distT_may mayI_noneI 1) (h.ga hb o ho)
theorem sees_L : ∀ {s : List Op} {e : En}, J e -> e.b = true -> mayT e.t0 = true -> (∀ o ∈ s, o ∈ e.si) -> L e (s.foldl seeE e)
 | [], e, h, hb, _, _ => ⟨rfl, rfl, rfl, rfl, rfl, withinT_refl (h.m0 hb), withinT_refl (h.m1 hb)⟩
 | o :: s, e, h, hb, hm, hs => by
  have l := see_L h hb (hs o (by simp))
  have j := h.le hb (h.wf.see (h.wf.si o (hs o (by simp)))) l
  have hb' : (seeE e o).b = true := l.b.trans hb
  exact l.trans (sees_L (s := s) j hb' (j.m0 hb') (fun o' h' => by rw [l.si]; exact hs o' (by simp [h'])))
theorem round_L {e : En} (h : J e) (hb : e.b = true) : L e (roundE e) := by
 have l := flows_L h hb
 have j := h.le hb h.wf.flows l
 exact l.trans (sees_L j hb (j.m0 hb) (fun o ho => ho))
theorem rounds_L : ∀ {n : Nat} {e : En}, J e -> e.b = true -> L e (roundsE n e)
 | 0, e, h, hb => ⟨rfl, rfl, rfl, rfl, rfl, withinT_refl (h.m0 hb), withinT_refl (h.m1 hb)⟩
 | n + 1, e, h, hb => by
  have l := round_L h hb
  unfold roundsE
  split
  ·exact l.trans (rounds_L (h.le hb h.wf.round l) (l.b.trans hb))
  ·exact l
theorem wn_cons (w : Nm) (x : Sl) (l : List Sl) : wn w (x :: l) = wn x.1 l := by
 unfold wn
 rw [List.getLast?_cons]
 cases l.getLast? <;> rfl
theorem okS_app : ∀ (l : List Sl) (w : Nm) (s : Sl), okS w (l ++ [s]) = (okS w l && okS (wn w l) [s])
 | [], w, s => by simp [okS, wn_nil]
 | x :: l, w, s => by
  simp only [List.cons_append, okS, okS_app l x.1 s, wn_cons, Bool.and_assoc]
theorem wn_ends (w : Nm) (l : List Sl) : wn w l = ((ends l).getLast?).getD w := by
 unfold wn ends
 rw [List.getLast?_map]
 cases l.getLast? <;> rfl
def goesT (t : Tb) (n : Nm) : Bool := finite n && decide (t.2.2.length < 64) && decide (cmp n (wn t.1 t.2.2) > 0)
theorem mayI_allI : mayI allI = true := by decide
theorem appT_goes {t : Tb} {n : Nm} (h : mayT t = true) : ((appT t n allI allI).2 = 0 ↔ goesT t n = true) /\ (goesT t n = true -> (appT t n allI allI).1 = (t.1, t.2.1, t.2.2 ++ [(n, allI, allI)])) := by
 unfold appT goesT
 rw [h, mayI_allI]
 simp only [Bool.true_and, Bool.and_true]
 cases finite n
 ·simp
 ·simp only [if_true, Bool.true_and, Bool.and_eq_true, decide_eq_true_eq]
  split
  ·exact ⟨⟨(fun h => absurd h (by decide)), (fun h => by omega)⟩, (fun h => by omega)⟩
  ·split
   ·exact ⟨⟨(fun h => absurd h (by decide)), (fun h => by omega)⟩, (fun h => by omega)⟩
   ·exact ⟨⟨fun _ => ⟨by omega, by omega⟩, fun _ => rfl⟩, fun _ => rfl⟩
theorem goesT_same {a b : Tb} (h : sameT a b = true) (n : Nm) : goesT a n = goesT b n := by
 obtain ⟨h1, h2⟩ := sameT_iff.1 h
 unfold goesT
 rw [sameT_len' h, wn_ends, wn_ends, h1, h2]
theorem mayT_app {t : Tb} {n : Nm} (h : mayT t = true) (hg : goesT t n = true) : mayT (t.1, t.2.1, t.2.2 ++ [(n, allI, allI)]) = true := by
 simp only [goesT, Bool.and_eq_true, decide_eq_true_eq] at hg
 simp only [mayT, Bool.and_eq_true, decide_eq_true_eq] at h ⊢
 refine ⟨⟨h.1.1, by simp; omega⟩, ?_⟩
 rw [okS_app, h.2]
 simp only [okS, hg.1.1, mayI_allI, Bool.true_and, Bool.and_true, decide_eq_true_eq]
 omega
theorem mayO_parts {o : Op} (h : mayO o = true) : 0 <= o.1 /\ o.1 <= 3 /\ finite o.2.1 = true /\ mayI o.2.2.1 = true /\ mayI o.2.2.2.1 = true := by
 simp only [mayO, Bool.and_eq_true, decide_eq_true_eq, fullI] at h
 refine ⟨h.1.1.1.1.1.1, h.1.1.1.1.1.2, ?_, h.1.1.2.1, h.1.2.1⟩
 simp only [finite, Bool.and_eq_true]
 exact ⟨h.1.1.1.1.2, h.1.1.1.2⟩
theorem take_refused {e : En} (h : J e) {o : Op} (hr : (takeE e o).2 ≠ 0) : (takeE e o).1 = e := by
 unfold takeE at hr ⊢
 split
 ·rename_i h0
  rw [if_pos h0] at hr
  split
  ·rfl
  ·rename_i h1; rw [if_neg h1] at hr; exact absurd rfl hr
 ·rename_i h0
  rw [if_neg h0] at hr
  split
  ·rfl
  ·rename_i hb
   rw [if_neg hb] at hr
   have hb' : e.b = true := by cases h : e.b <;> simp_all
   split
   ·rename_i h1
    rw [if_pos h1] at hr
    split
    ·rfl
    ·rename_i a0
     rw [if_neg a0] at hr
     have g0 := (appT_goes (n := o.2.1) (h.m0 hb')).1.1 (Classical.byContradiction a0)
     have a1 : (appT e.t1 o.2.1 allI allI).2 = 0 := (appT_goes (h.m1 hb')).1.2 (by rw [goesT_same (h.same hb')]; exact g0)
     rw [if_neg (fun h => h a1)] at hr
     exact absurd rfl hr
   ·rename_i h1
    rw [if_neg h1] at hr
    split
    ·rfl
    ·rename_i hg
     rw [if_neg hg] at hr
     split
     ·rename_i h2; rw [if_pos h2] at hr; exact absurd rfl hr
     ·rename_i h2
      rw [if_neg h2] at hr
      split
      ·rfl
      ·rename_i h3; rw [if_neg h3] at hr; exact absurd rfl hr
theorem take_ops (e : En) (o : Op) : (takeE e o).1.ops = e.ops := by unfold takeE; repeat' split <;> try rfl
theorem newT_ok {n : Nm} {x : Iv} (hn : finite n = true) (hx : mayI x = true) : (newT n x).1 = (n, x, []) /\ mayT (n, x, []) = true := by
 have h : mayT (n, x, []) = true := by simp [mayT, hn, hx, okS]
 exact ⟨by unfold newT; rw [if_pos h], h⟩
theorem gate_app {e e' : En} (hb : e'.b = e.b) (h1 : e'.t0.1 = e.t0.1) {s : Sl} (h2 : e'.t0.2.2 = e.t0.2.2 ++ [s]) {n : Nm} (h : 0 <= gateE e n) : 0 <= gateE e' n := by
 unfold gateE at h ⊢
 rw [hb, h1]
 split
 ·rename_i h3; rw [if_pos h3] at h; exact h
 ·rename_i h3
  rw [if_neg h3] at h
  split
  ·omega
  ·rename_i h4
   rw [if_neg h4] at h
   unfold gateL at h ⊢
   rw [h1, h2, <- List.cons_append, List.findIdx?_append]
   cases hq : ((e.t0.1, zI, zI) :: e.t0.2.2).findIdx? (fun s => decide (s.1 = n)) with
   | none => rw [hq] at h; exact absurd h (by decide)
   | some i => simp only [Option.some_or]; omega
theorem take_J {e : En} (h : J e) {o : Op} (ho : wfO o) (hm : mayO o = true) (hr : (takeE e o).2 = 0) : (takeE e o).1.b = true /\ J (takeE e o).1 /\ (o.1 ≠ 0 -> o.1 ≠ 1 -> e.b = true /\ withinT (takeE e o).1.t0 e.t0 = true /\ withinT (takeE e o).1.t1 e.t1 = true) := by
 obtain ⟨o0, o3, ofin, oa, ob⟩ := mayO_parts hm
 have hlen : e.r0.length < 1000 /\ e.r1.length < 1000 := by
  cases hb : e.b
  ·have := h.off hb; rw [this.2.1, this.2.2]; decide
  ·have a := mayT_len (h.m0 hb)
   have b := mayT_len (h.m1 hb)
   rw [h.n0 hb, h.n1 hb]; omega
 have hw := h.wf.take ho hlen
 unfold takeE at hr hw ⊢
 by_cases h0 : o.1 = 0
 ·rw [if_pos h0] at hr hw ⊢
  by_cases hb : e.b = true
  ·rw [if_pos hb] at hr; cases hr
  ·rw [if_neg hb] at hw ⊢
   have hb' : e.b = false := by cases hq : e.b <;> simp_all
   obtain ⟨f1, f2, f3⟩ := h.off hb'
   obtain ⟨n1, n2⟩ := newT_ok ofin oa
   obtain ⟨n3, n4⟩ := newT_ok ofin ob
   refine ⟨rfl, ?_, fun h => absurd h0 h⟩
   exact {
    wf := hw, no := h.no, off := fun h => by cases h
    m0 := fun _ => by show mayT (newT _ _).1 = true; rw [n1]; exact n2
    m1 := fun _ => by show mayT (newT _ _).1 = true; rw [n3]; exact n4
    same := fun _ => by show sameT (newT _ _).1 (newT _ _).1 = true; rw [n1, n3]; exact sameT_iff.2 ⟨rfl, rfl⟩
    n0 := fun _ => by show e.r0.length = (newT _ _).1.2.2.length; rw [n1, f2]; rfl
    n1 := fun _ => by show e.r1.length = (newT _ _).1.2.2.length; rw [n3, f3]; rfl
    a0 := h.a0, a1 := h.a1
    ga := fun _ o' ho' => by rw [show ({ e with b := true, t0 := (newT o.2.1 o.2.2.1).1, t1 := (newT o.2.1 o.2.2.2.1).1 } : En).si = [] from f1] at ho'; cases ho' }
 ·rw [if_neg h0] at hr hw ⊢
  by_cases hb : e.b = false
  ·rw [if_pos hb] at hr; cases hr
  ·rw [if_neg hb] at hr hw ⊢
   have hb' : e.b = true := by cases hq : e.b <;> simp_all
   by_cases h1 : o.1 = 1
   ·rw [if_pos h1] at hr hw ⊢
    by_cases a0 : (appT e.t0 o.2.1 allI allI).2 = 0
    ·rw [if_neg (fun h => h a0)] at hr hw ⊢
     have g0 := (appT_goes (n := o.2.1) (h.m0 hb')).1.1 a0
     have g1 : goesT e.t1 o.2.1 = true := by rw [goesT_same (h.same hb')]; exact g0
     have a1 : (appT e.t1 o.2.1 allI allI).2 = 0 := (appT_goes (h.m1 hb')).1.2 g1
     rw [if_neg (fun h => h a1)] at hw ⊢
     have e0 := (appT_goes (h.m0 hb')).2 g0
     have e1 := (appT_goes (h.m1 hb')).2 g1
     obtain ⟨s1, s2⟩ := sameT_iff.1 (h.same hb')
     refine ⟨hb', ?_, fun _ h => absurd h1 h⟩
     exact {
      wf := hw, no := h.no, off := fun h => by rw [show ({ e with t0 := (appT e.t0 o.2.1 allI allI).1, r0 := e.r0 ++ [o.2.2.1], t1 := (appT e.t1 o.2.1 allI allI).1, r1 := e.r1 ++ [o.2.2.2.1] } : En).b = true from hb'] at h; cases h
      m0 := fun _ => by show mayT (appT _ _ _ _).1 = true; rw [e0]; exact mayT_app (h.m0 hb') g0
      m1 := fun _ => by show mayT (appT _ _ _ _).1 = true; rw [e1]; exact mayT_app (h.m1 hb') g1
      same := fun _ => by
       show sameT (appT _ _ _ _).1 (appT _ _ _ _).1 = true
       rw [e0, e1]
       refine sameT_iff.2 ⟨s1, ?_⟩
       have s2' : List.map (·.1) e.t1.2.2 = List.map (·.1) e.t0.2.2 := s2
       simp [ends, s2']
      n0 := fun _ => by show (e.r0 ++ [_]).length = (appT _ _ _ _).1.2.2.length; rw [e0]; simp [h.n0 hb']
      n1 := fun _ => by show (e.r1 ++ [_]).length = (appT _ _ _ _).1.2.2.length; rw [e1]; simp [h.n1 hb']
      a0 := fun x hx => by
       rcases List.mem_append.1 hx with hx | hx
       ·exact h.a0 x hx
       ·rw [List.mem_singleton.1 hx]; exact oa
      a1 := fun x hx => by
       rcases List.mem_append.1 hx with hx | hx
       ·exact h.a1 x hx
       ·rw [List.mem_singleton.1 hx]; exact ob
      ga := fun _ o' ho' => by
       refine gate_app (e := e) (e' := { e with t0 := (appT e.t0 o.2.1 allI allI).1, r0 := e.r0 ++ [o.2.2.1], t1 := (appT e.t1 o.2.1 allI allI).1, r1 := e.r1 ++ [o.2.2.2.1] }) (s := (o.2.1, allI, allI)) rfl ?_ ?_ (h.ga hb' o' ho')
       ·show (appT _ _ _ _).1.1 = _; rw [e0]
       ·show (appT _ _ _ _).1.2.2 = _; rw [e0] }
    ·rw [if_pos a0] at hr; exact absurd hr a0
   ·rw [if_neg h1] at hr hw ⊢
    by_cases hg : gateE e o.2.1 < 0
    ·rw [if_pos hg] at hr; cases hr
    ·rw [if_neg hg] at hr hw ⊢
     by_cases h2 : o.1 = 2
     ·rw [if_pos h2] at hw ⊢
      have l := setE_L h hb' (n := o.2.1) oa ob (by omega)
      exact ⟨hb', h.le hb' hw l, fun _ _ => ⟨hb', l.w0, l.w1⟩⟩
     ·rw [if_neg h2] at hr hw ⊢
      by_cases h3 : e.si.length >= 16
      ·rw [if_pos h3] at hr; cases hr
      ·rw [if_neg h3] at hw ⊢
       refine ⟨hb', ?_, fun _ _ => ⟨hb', withinT_refl (h.m0 hb'), withinT_refl (h.m1 hb')⟩⟩
       exact { h with
        wf := hw
        off := fun h => by rw [show ({ e with si := e.si ++ [o] } : En).b = true from hb'] at h; cases h
        ga := fun _ o' ho' => by
         have hq : gateE { e with si := e.si ++ [o] } o'.2.1 = gateE e o'.2.1 := gateE_congr rfl (sameT_iff.2 ⟨rfl, rfl⟩) _
         rw [hq]
         rcases List.mem_append.1 ho' with hx | hx
         ·exact h.ga hb' o' hx
         ·rw [List.mem_singleton.1 hx]; omega }
theorem do_refused {e : En} (h : J e) {o : Op} (hr : (doE e o).2 ≠ 0) : (doE e o).1 = e := by
 unfold doE at hr ⊢
 split
 ·rfl
 ·rename_i h1
  rw [if_neg h1] at hr
  split
  ·rfl
  ·rename_i h2
   rw [if_neg h2] at hr
   split
   ·rename_i h3; exact take_refused h h3
   ·rename_i h3; rw [if_neg h3] at hr; exact absurd rfl hr
theorem do_done {e : En} (h : J e) {o : Op} (ho : wfO o) (hr : (doE e o).2 = 0) : J (doE e o).1 /\ (doE e o).1.ops = e.ops ++ [o] /\ (doE e o).1.b = true /\ (o.1 ≠ 0 -> o.1 ≠ 1 -> e.b = true /\ withinT (doE e o).1.t0 e.t0 = true /\ withinT (doE e o).1.t1 e.t1 = true) := by
 unfold doE at hr ⊢
 by_cases h1 : mayO o = false
 ·rw [if_pos h1] at hr; cases hr
 ·rw [if_neg h1] at hr ⊢
  have hm : mayO o = true := by cases hq : mayO o <;> simp_all
  by_cases h2 : e.ops.length >= 256
  ·rw [if_pos h2] at hr; cases hr
  ·rw [if_neg h2] at hr ⊢
   by_cases h3 : (takeE e o).2 = 0
   ·rw [if_neg (fun h => h h3)]
    obtain ⟨hb, j, less⟩ := take_J h ho hm h3
    have j' : J { (takeE e o).1 with ops := (takeE e o).1.ops ++ [o] } := { j with
     wf := { j.wf with }
     no := by show ((takeE e o).1.ops ++ [o]).length <= 256; rw [take_ops]; simp; omega }
    have l := rounds_L (n := 8) j' hb
    refine ⟨j'.le hb j'.wf.rounds l, ?_, l.b.trans hb, fun n0 n1 => ?_⟩
    ·rw [l.ops]; show (takeE e o).1.ops ++ [o] = _; rw [take_ops]
    ·obtain ⟨q1, q2, q3⟩ := less n0 n1
     exact ⟨q1, withinT_trans l.w0 q2, withinT_trans l.w1 q3⟩
   ·rw [if_pos h3] at hr; exact absurd hr h3
theorem do_J {e : En} (h : J e) {o : Op} (ho : wfO o) : J (doE e o).1 := by
 by_cases hr : (doE e o).2 = 0
 ·exact (do_done h ho hr).1
 ·rw [do_refused h hr]; exact h
theorem X_eq (k : Nat) (e : En) (h : e.t0.2.2.length <= 64) : engine_Engine_X_s k (((), (), (), (), (), (), ()), e.m) = some (Sum.inl (((), (), (), (), (), (), ()), ((((e.t0, ()), (e.t1, ())), (e.b, ((), ()))), e.r0, e.r1, e.ops, e.si, e.t0, ()))) := by
 have h1 : e.t0.2.2.length * 176 <= 140737488355328 := by omega
 simp only [engine_Engine_X_s, engine_copied, if_pos h1, Option.bind_some]
theorem Ops_eq (k : Nat) (e : En) (h : e.ops.length <= 256) : engine_Engine_Ops_s k (((), (), (), (), (), (), ()), e.m) = some (Sum.inl (((), (), (), (), (), e.ops, ()), e.m)) := by
 have h1 : e.ops.length * 256 <= 140737488355328 := by omega
 simp only [engine_Engine_Ops_s, if_pos h1]
def lostE (e : En) : Bool := e.b && ((!mayT e.t0 || emptyT e.t0) || (!mayT e.t1 || emptyT e.t1))
def e00 : En := ⟨zT, zT, false, [], [], [], []⟩
theorem J00 : J e00 where
 wf := { t0 := wfT_zT, t1 := wfT_zT, l0 := by decide, l1 := by decide, r0 := (fun x h => by cases h), r1 := (fun x h => by cases h), n0 := by decide, n1 := by decide, si := (fun x h => by cases h), ns := by decide }
 no := by decide
 off := fun _ => ⟨rfl, rfl, rfl⟩
 m0 := fun h => by cases h
 m1 := fun h => by cases h
 same := fun h => by cases h
 n0 := fun h => by cases h
 n1 := fun h => by cases h
 a0 := fun x h => by cases h
 a1 := fun x h => by cases h
 ga := fun h => by cases h
theorem J.rs {e : En} (h : J e) : e.r0.length < 1000 /\ e.r1.length < 1000 := by
 cases hb : e.b
 ·have := h.off hb; rw [this.2.1, this.2.2]; decide
 ·have a := mayT_len (h.m0 hb)
  have b := mayT_len (h.m1 hb)
  rw [h.n0 hb, h.n1 hb]; omega
theorem do_eqJ {e : En} (h : J e) {o : Op} (ho : wfO o) : ∃ K, ∀ k, K <= k -> engine_Engine_Do_s k (((), (), o, ()), e.m) = some (Sum.inl (((), (doE e o).2, ()), (doE e o).1.m)) :=
 do_eq e h.wf o ho h.rs (by have := h.no; omega)
def toldE (l : List Op) (e : En) : En := l.foldl (fun e o => (doE e o).1) e
theorem Y_eq (k : Nat) (e : En) (h : e.t1.2.2.length <= 64) : engine_Engine_Y_s k (((), (), (), (), (), (), ()), (e.r0, e.r1, e.si, e.ops, (((e.t0, ()), (e.t1, ())), (e.b, ((), ()))), ())) = some (Sum.inl (((), (), (), (), (), (), ()), (e.r0, e.r1, e.si, e.ops, (((e.t0, ()), (e.t1, ())), (e.b, ((), ()))), e.t1, ()))) := by
 have h1 : e.t1.2.2.length * 176 <= 140737488355328 := by omega
 simp only [engine_Engine_Y_s, engine_copied, if_pos h1, Option.bind_some]
theorem Lost_eq (k : Nat) (hk : 100 <= k) (e : En) : engine_Engine_Lost_s k (((), (), (), (), (), (), ()), (e.r0, e.r1, e.si, e.ops, (((e.t0, ()), (e.t1, ())), (e.b, ((), ()))), ())) = some (Sum.inl (((), (), (), (), (), lostE e, ()), (e.r0, e.r1, e.si, e.ops, (((e.t0, ()), (e.t1, ())), (e.b, ((), ()))), ()))) := by
 obtain ⟨t0, t1, b, r0, r1, ops, si⟩ := e
 simp only [engine_Engine_Lost_s, tube_Empty_eq k hk, Option.bind_some, lostE]
 cases b
 ·rfl
 ·cases (!mayT t0 || emptyT t0) <;> rfl
def accE : List Op -> En -> Prop
 | [], _ => True
 | o :: l, e => (doE e o).2 = 0 /\ accE l (doE e o).1
theorem told_app (l m : List Op) (e : En) : toldE (l ++ m) e = toldE m (toldE l e) := List.foldl_append
theorem acc_app : ∀ {l : List Op} {m : List Op} {e : En}, accE (l ++ m) e ↔ accE l e /\ accE m (toldE l e)
 | [], m, e => by simp [accE, toldE]
 | o :: l, m, e => by
  have ih := @acc_app l m (doE e o).1
  show (doE e o).2 = 0 /\ accE (l ++ m) (doE e o).1 ↔ _
  rw [ih]
  show _ ↔ ((doE e o).2 = 0 /\ accE l (doE e o).1) /\ accE m (toldE l (doE e o).1)
  exact and_assoc.symm
def R (e : En) : Prop := accE e.ops e00 /\ toldE e.ops e00 = e
theorem R.do {e : En} (h : R e) (j : J e) {o : Op} (ho : wfO o) : R (doE e o).1 := by
 by_cases hr : (doE e o).2 = 0
 ·have h1 := (do_done j ho hr).2.1
  unfold R
  rw [h1]
  refine ⟨acc_app.2 ⟨h.1, ?_⟩, ?_⟩
  ·rw [h.2]; exact ⟨hr, trivial⟩
  ·rw [told_app, h.2]; rfl
 ·rw [do_refused j hr]; exact h
theorem againA_loop (f : List Op) : ∀ (s pre : List Op) (e : En), J e -> (∀ o ∈ s, wfO o) -> accE s e -> pre.length + s.length <= 1000 -> ∃ K, ∀ k, K <= k -> ∀ m, s.length < m ->
  engine_Again_s_l0 k m ((f, (), pre ++ s, ((pre ++ s).length : Int), (pre.length : Int), ()), (e.r0, e.r1, e.si, e.ops, (((e.t0, ()), (e.t1, ())), (e.b, ((), ()))), ())) =
   some (Sum.inl ((f, (), ()), ((toldE s e).r0, (toldE s e).r1, (toldE s e).si, (toldE s e).ops, ((((toldE s e).t0, ()), ((toldE s e).t1, ())), ((toldE s e).b, ((), ()))), ()))) := by
 intro s
 induction s with
 | nil =>
  intro pre e _ _ _ _
  refine ⟨0, fun k _ m hm => ?_⟩
  obtain ⟨m, rfl⟩ : ∃ i, m = i + 1 := ⟨m - 1, by omega⟩
  have h : ¬ (pre.length : Int) < ((pre ++ []).length : Int) := by simp
  simp only [engine_Again_s_l0, cond_f h]
  rfl
 | cons o s ih =>
  intro pre e h hs ha hl
  simp only [List.length_cons] at hl
  obtain ⟨K1, h1⟩ := do_eqJ h (hs o (by simp))
  obtain ⟨K2, h2⟩ := ih (pre ++ [o]) (doE e o).1 (do_J h (hs o (by simp))) (fun x hx => hs x (by simp [hx])) ha.2 (by simp; omega)
  rw [mid_eq, len_snoc] at h2
  refine ⟨K1 + K2, fun k hk m hm => ?_⟩
  simp only [List.length_cons] at hm
  obtain ⟨m, rfl⟩ : ∃ i, m = i + 1 := ⟨m - 1, by omega⟩
  have hz : ((doE e o).2 != 0) = false := by rw [ha.1]; rfl
  simp only [engine_Again_s_l0, cond_t (len_lt pre o s), if_pos (Int.natCast_nonneg pre.length), at_mid, Option.bind_some]
  erw [h1 k (by omega)]
  simp only [Option.bind_some, Sum.elim_inl, hz, cond_false, wrap_succ (show pre.length <= 1000000000 by omega)]
  exact h2 k (by omega) m (by omega)
theorem againA_eq (s : List Op) (hs : ∀ o ∈ s, wfO o) (ha : accE s e00) (hl : s.length <= 1000) : ∃ K, ∀ k, K <= k -> engine_Again_s k ((s, ()), ()) =
  some (Sum.inl (((), (s.length : Int), 0, ()), ((toldE s e00).r0, (toldE s e00).r1, (toldE s e00).si, (toldE s e00).ops, ((((toldE s e00).t0, ()), ((toldE s e00).t1, ())), ((toldE s e00).b, ((), ()))), ()))) := by
 obtain ⟨K, h⟩ := againA_loop s s [] e00 J00 hs ha (by simpa using hl)
 refine ⟨K + s.length + 1, fun k hk => ?_⟩
 have e1 := h k (by omega) k (by omega)
 simp only [List.nil_append, List.length_nil] at e1
 rw [show ((0 : Nat) : Int) = 0 from rfl] at e1
 simp only [engine_Again_s]
 erw [e1]
 rfl
theorem okO {o : Op} (h : okU (.pair (.int .i64) (.pair TNm (.pair TIv (.pair TIv TIv)))) o) : wfO o := ⟨okN h.2.1, okI h.2.2.1, okI h.2.2.2.1, okI h.2.2.2.2⟩
theorem okOs {l : List Op} (h : okU (.list (.pair (.int .i64) (.pair TNm (.pair TIv (.pair TIv TIv))))) l) : ∀ x ∈ l, wfO x := fun x hx => okO (h.2 x hx)
def wordL (n : Int) : Nat -> List Int
 | 0 => []
 | s + 1 => (n / 2 ^ (8 * s) % 256) :: wordL n s
theorem wordL_len (n : Int) : ∀ s, (wordL n s).length = s
 | 0 => rfl
 | s + 1 => by simp [wordL, wordL_len n s]
theorem wordL_mem {n c : Int} : ∀ {s : Nat}, c ∈ wordL n s -> 0 <= c /\ c < 256
 | 0, h => by cases h
 | s + 1, h => by
  rcases List.mem_cons.1 h with h | h
  ·subst h; omega
  ·exact wordL_mem h
theorem mod_p8 (n : Int) (s : Nat) : n % 2 ^ (8 * (s + 1)) = (n / 2 ^ (8 * s) % 256) * 2 ^ (8 * s) + n % 2 ^ (8 * s) := by
 have e : (2 : Int) ^ (8 * (s + 1)) = 256 * 2 ^ (8 * s) := by rw [show 8 * (s + 1) = 8 + 8 * s by omega, p2_add]; rfl
 rw [e]
 have hp := p2_pos (8 * s)
 obtain ⟨P, hP⟩ : ∃ P : Int, P = 2 ^ (8 * s) := ⟨_, rfl⟩
 rw [<- hP] at hp ⊢
 have h1 := Int.mul_ediv_add_emod n P
 have h2 := Int.emod_nonneg n (show P ≠ 0 by omega)
 have h3 := Int.emod_lt_of_pos n hp
 have h4 := Int.mul_ediv_add_emod (n / P) 256
 have h5 := Int.emod_nonneg (n / P) (show (256 : Int) ≠ 0 by decide)
 have h6 := Int.emod_lt_of_pos (n / P) (show (0 : Int) < 256 by decide)
 have h7 := Int.mul_le_mul_of_nonneg_right (show n / P % 256 <= 255 by omega) (show 0 <= P by omega)
 have h8 := Int.mul_nonneg h5 (show 0 <= P by omega)
 have key : n = (n / P % 256 * P + n % P) + (256 * P) * (n / P / 256) := by
  obtain ⟨q, hq⟩ : ∃ q, q = n / P := ⟨_, rfl⟩
  rw [<- hq] at h1 h4 h5 h6 h7 h8 ⊢
  have h9 : P * (256 * (q / 256) + q % 256) = P * q := by rw [h4]
  grind
 conv => lhs; rw [key]
 rw [Int.add_mul_emod_self_left]
 exact Int.emod_eq_of_lt (by omega) (by omega)
theorem fold_word (n : Int) : ∀ (s : Nat) (a : Int), (wordL n s).foldl (fun a c => a * 256 + c) a = a * 2 ^ (8 * s) + n % 2 ^ (8 * s)
 | 0, a => by simp [wordL]
 | s + 1, a => by
  rw [wordL, List.foldl_cons, fold_word n s, mod_p8 n s]
  have e : (2 : Int) ^ (8 * (s + 1)) = 256 * 2 ^ (8 * s) := by rw [show 8 * (s + 1) = 8 + 8 * s by omega, p2_add]; rfl
  rw [e]
  grind
def encN (n : Nm) : List Int := if n.1 = 0 then [0] else if n.1 = 2 then [if n.2.1 = true then 2 else 1] else (if n.2.1 = true then 4 else 3) :: (wordL n.2.2.1 8 ++ wordL (n.2.2.2 + 1048576) 4)
def encI (x : Iv) : List Int := if x.1 = true then [0] else 1 :: (encN x.2.1 ++ encN x.2.2)
def encO (o : Op) : List Int := o.1 :: (encN o.2.1 ++ (encI o.2.2.1 ++ (encI o.2.2.2.1 ++ encI o.2.2.2.2)))
def encT (t : Tb) : List Int := (t.2.2.length : Int) :: (encN t.1 ++ (encI t.2.1 ++ (t.2.2.flatMap fun s => encN s.1 ++ (encI s.2.1 ++ encI s.2.2))))
theorem encN_len (n : Nm) : (encN n).length <= 13 /\ 0 < (encN n).length := by
 unfold encN
 split
 ·simp
 ·split
  ·simp
  ·simp [wordL_len]
theorem encI_len (x : Iv) : (encI x).length <= 27 /\ 0 < (encI x).length := by
 have a := encN_len x.2.1
 have b := encN_len x.2.2
 unfold encI
 split
 ·simp
 ·simp; omega
theorem encO_len (o : Op) : (encO o).length <= 100 /\ 0 < (encO o).length := by
 have a := encN_len o.2.1
 have b := encI_len o.2.2.1
 have c := encI_len o.2.2.2.1
 have d := encI_len o.2.2.2.2
 simp [encO]; omega
theorem u8m (x : Int) : IntKind.u8.wrap x = x % 256 := IntKind.wrap_u8 x
theorem word_loop (k : Nat) (n : Int) (d : Nat) (hd : d <= 8) : ∀ (j i m : Nat) (b : List Int), i + j = d -> j < m -> b.length + j <= 1000000 ->
  codec_writer_word_s_l0 k m (((), (), n, (d : Int), (d : Int), (i : Int), ()), ((), b, ())) = some (Sum.inl (((), ()), ((), b ++ wordL n j, ()))) := by
 intro j
 induction j with
 | zero =>
  intro i m b hi hm hb
  obtain ⟨m, rfl⟩ : ∃ q, m = q + 1 := ⟨m - 1, by omega⟩
  simp only [codec_writer_word_s_l0, cond_f (show ¬ (i : Int) < (d : Int) by omega), wordL, List.append_nil]
 | succ j ih =>
  intro i m b hi hm hb
  obtain ⟨m, rfl⟩ : ∃ q, m = q + 1 := ⟨m - 1, by omega⟩
  have hs : IntKind.i64.wrap (8 * IntKind.i64.wrap (IntKind.i64.wrap ((d : Int) - 1) - (i : Int))) = ((8 * j : Nat) : Int) := by
   rw [w64 (x := (d : Int) - 1) (by omega) (by omega), w64 (x := (d : Int) - 1 - i) (by omega) (by omega), w64 (x := 8 * ((d : Int) - 1 - i)) (by omega) (by omega)]; omega
  have h1 := ih (i + 1) m (b ++ [n / 2 ^ (8 * j) % 256]) (by omega) (by omega) (by simp; omega)
  simp only [codec_writer_word_s_l0, cond_t (show (i : Int) < (d : Int) by omega), hs, if_neg (show ¬ ((8 * j : Nat) : Int) < 0 by omega), shrR (show 8 * j <= 64 by omega), u8m, if_pos (show (b.length + [n / 2 ^ (8 * j) % 256].length) * 1 <= 140737488355328 by simp; omega), wrap_succ (show i <= 1000000000 by omega)]
  rw [h1, wordL]
  simp
theorem wword_eq {k : Nat} (hk : 20 <= k) (n : Int) {d : Nat} (hd : d <= 8) {b : List Int} (hb : b.length <= 999000) : codec_writer_word_s k (((), (), (), n, (d : Int), ()), ((), b, ())) = some (Sum.inl (((), ()), ((), b ++ wordL n d, ()))) := by
 have h := word_loop k n d hd d 0 k b (by omega) (by omega) (by omega)
 rw [show ((0 : Nat) : Int) = 0 from rfl] at h
 simp only [codec_writer_word_s, h, Option.bind_some, Sum.elim_inl]
theorem wnum_eq {k : Nat} (hk : 20 <= k) {n : Nm} (hn : may n = true) {b : List Int} (hb : b.length <= 900000) : codec_writer_num_s k (((), (), (), n, ()), ((), b, ())) = some (Sum.inl (((), ()), ((), b ++ encN n, ()))) := by
 have hl : ∀ c : Int, (b.length + [c].length) * 1 <= 140737488355328 := fun c => by simp; omega
 have hs : ∀ c : Int, codec_sign k c n.2.1 = some (if n.2.1 = true then IntKind.u8.wrap (c + 1) else c, ()) := fun c => by unfold codec_sign; cases n.2.1 <;> rfl
 rcases may_cases hn with rfl | ⟨h1, h2, h3, h4⟩ | ⟨h1, h2, h3⟩
 ·simp only [codec_writer_num_s, show ((0 : Int) == 0) = true from rfl, cond_true]
  exact (if_pos (hl 0)).trans rfl
 ·have a0 : (n.1 == 0) = false := by rw [h1]; rfl
  have a2 : (n.1 == 2) = false := by rw [h1]; rfl
  have e0 : IntKind.u64.wrap (IntKind.i64.wrap (n.2.2.2 + 1048576)) = n.2.2.2 + 1048576 := by rw [w64 (by omega) (by omega), u64w (by omega) (by omega)]
  have h8 := fun c : Int => wword_eq hk n.2.2.1 (d := 8) (by omega) (b := b ++ [c]) (by simp; omega)
  have h9 := fun c : List Int => fun hc : c.length <= 9 => wword_eq hk (n.2.2.2 + 1048576) (d := 4) (by omega) (b := b ++ c) (by simp; omega)
  simp only [codec_writer_num_s, a0, a2, cond_false, hs, Option.bind_some, if_pos (hl _), e0]
  erw [h8]
  simp only [Option.bind_some, Sum.elim_inl, List.append_assoc]
  erw [h9 _ (by simp [wordL_len])]
  simp only [Option.bind_some, Sum.elim_inl, List.append_assoc]
  unfold encN
  rw [if_neg (show ¬ n.1 = 0 by omega), if_neg (show ¬ n.1 = 2 by omega)]
  cases n.2.1 <;> rfl
 ·have a0 : (n.1 == 0) = false := by rw [h1]; rfl
  have a2 : (n.1 == 2) = true := by rw [h1]; rfl
  simp only [codec_writer_num_s, a0, a2, cond_false, cond_true, hs, Option.bind_some, if_pos (hl _)]
  unfold encN
  rw [if_neg (show ¬ n.1 = 0 by omega), if_pos h1]
  cases n.2.1 <;> rfl
theorem mayI_parts {x : Iv} (h : mayI x = true) : may x.2.1 = true /\ may x.2.2 = true /\ (x.1 = true -> x = noneI) := by
 unfold mayI at h
 cases hx : x.1
 ·rw [hx] at h
  simp only [Bool.false_eq_true, if_false, Bool.and_eq_true] at h
  exact ⟨h.1.1.1.1, h.1.1.1.2, fun h => by cases h⟩
 ·rw [hx] at h
  simp only [if_true, decide_eq_true_eq] at h
  rw [h]
  exact ⟨rfl, rfl, fun _ => rfl⟩
theorem wiv_loop (k : Nat) (hk : 20 <= k) : ∀ (s pre : List Iv) (m : Nat) (b : List Int), s.length < m -> pre.length + s.length <= 1000 -> b.length + 30 * s.length <= 800000 -> (∀ x ∈ s, mayI x = true) ->
  codec_writer_iv_s_l0 k m (((), (), pre ++ s, ((pre ++ s).length : Int), (pre.length : Int), ()), ((), b, ())) = some (Sum.inl (((), ()), ((), b ++ s.flatMap encI, ()))) := by
 intro s
 induction s with
 | nil =>
  intro pre m b hm _ _ _
  obtain ⟨m, rfl⟩ : ∃ q, m = q + 1 := ⟨m - 1, by omega⟩
  simp only [codec_writer_iv_s_l0, cond_f (len_ge pre)]
  simp
 | cons x s ih =>
  intro pre m b hm hl hb hx
  simp only [List.length_cons] at hm hl hb
  obtain ⟨m, rfl⟩ : ∃ q, m = q + 1 := ⟨m - 1, by omega⟩
  have he := encI_len x
  have h := ih (pre ++ [x]) m (b ++ encI x) (by omega) (by simp; omega) (by simp; omega) (fun y hy => hx y (by simp [hy]))
  rw [mid_eq, len_snoc] at h
  have hl1 : ∀ c : Int, (b.length + [c].length) * 1 <= 140737488355328 := fun c => by simp; omega
  obtain ⟨m1, m2, _⟩ := mayI_parts (hx x (by simp))
  simp only [codec_writer_iv_s_l0, cond_t (len_lt pre x s), if_pos (Int.natCast_nonneg pre.length), at_mid, Option.bind_some, if_pos (hl1 _), wrap_succ (show pre.length <= 1000000000 by omega)]
  have ef : (x :: s).flatMap encI = encI x ++ s.flatMap encI := rfl
  rw [ef, <- List.append_assoc]
  cases hx1 : x.1
  ·have ee : encI x = 1 :: (encN x.2.1 ++ encN x.2.2) := by unfold encI; rw [hx1]; rfl
   have n1 := encN_len x.2.1
   simp only [cond_false]
   erw [wnum_eq hk m1 (by simp; omega)]
   simp only [Option.bind_some, Sum.elim_inl]
   erw [wnum_eq hk m2 (by simp; omega)]
   simp only [Option.bind_some, Sum.elim_inl]
   rw [ee] at h ⊢
   rw [show b ++ [1] ++ encN x.2.1 ++ encN x.2.2 = b ++ 1 :: (encN x.2.1 ++ encN x.2.2) by simp]
   exact (if_pos (hl1 1)).trans h
  ·have ee : encI x = [0] := by unfold encI; rw [hx1]; rfl
   simp only [cond_true]
   rw [ee] at h ⊢
   exact (if_pos (hl1 0)).trans h
theorem wiv_eq {k : Nat} (hk : 20 <= k) {l : List Iv} (hl : l.length <= 10) (h : ∀ x ∈ l, mayI x = true) {b : List Int} (hb : b.length <= 700000) : codec_writer_iv_s k (((), (), (), l, ()), ((), b, ())) = some (Sum.inl (((), ()), ((), b ++ l.flatMap encI, ()))) := by
 have h := wiv_loop k hk l [] k b (by omega) (by simp; omega) (by omega) h
 simp only [List.nil_append, List.length_nil] at h
 rw [show ((0 : Nat) : Int) = 0 from rfl] at h
 simp only [codec_writer_iv_s, h, Option.bind_some, Sum.elim_inl]
structure OpB (o : Op) : Prop where
 lo : 0 <= o.1
 hi : o.1 <= 3
 t : may o.2.1 = true
 a : mayI o.2.2.1 = true
 b : mayI o.2.2.2.1 = true
 c : mayI o.2.2.2.2 = true
 wf : wfO o
theorem codec_may_eq (k : Nat) {o : Op} (h : OpB o) : codec_may k o = some (true, ()) := by
 simp only [codec_may, num_May_eq, iv_May_eq, Option.bind_some, cond_t (show o.1 >= 0 from h.lo), cond_t h.hi, h.t, h.a, h.b, h.c, cond_true]
theorem encode_loop (k : Nat) (hk : 20 <= k) : ∀ (s pre : List Op) (m : Nat) (b : List Int), s.length < m -> pre.length + s.length <= 1000 -> b.length + 100 * s.length <= 600000 -> (∀ x ∈ s, OpB x) ->
  codec_Encode_l0 k m (((), pre ++ s, ((pre ++ s).length : Int), (pre.length : Int), ()), ((), b, ())) = some (Sum.inr (Sum.inl (((), ()), ((), b ++ s.flatMap encO, ())))) := by
 intro s
 induction s with
 | nil =>
  intro pre m b hm _ _ _
  obtain ⟨m, rfl⟩ : ∃ q, m = q + 1 := ⟨m - 1, by omega⟩
  simp only [codec_Encode_l0, cond_f (len_ge pre)]
  simp
 | cons o s ih =>
  intro pre m b hm hl hb hx
  simp only [List.length_cons] at hm hl hb
  obtain ⟨m, rfl⟩ : ∃ q, m = q + 1 := ⟨m - 1, by omega⟩
  have he := encO_len o
  have ho := hx o (by simp)
  have h := ih (pre ++ [o]) m (b ++ encO o) (by omega) (by simp; omega) (by simp; omega) (fun y hy => hx y (by simp [hy]))
  rw [mid_eq, len_snoc] at h
  have hl1 : ∀ c : Int, (b.length + [c].length) * 1 <= 140737488355328 := fun c => by simp; omega
  have n1 := encN_len o.2.1
  have h0 := ho.lo
  have h3 := ho.hi
  have w0 : IntKind.u8.wrap o.1 = o.1 := by rw [u8m]; omega
  simp only [codec_Encode_l0, cond_t (len_lt pre o s), if_pos (Int.natCast_nonneg pre.length), at_mid, Option.bind_some, codec_may_eq k ho, Bool.not_true, cond_false, if_pos (hl1 _), wrap_succ (show pre.length <= 1000000000 by omega), w0]
  erw [wnum_eq hk ho.t (by simp; omega)]
  simp only [Option.bind_some, Sum.elim_inl]
  erw [wiv_eq hk (l := [o.2.2.1, o.2.2.2.1, o.2.2.2.2]) (by simp) (by
   intro y hy
   simp only [List.mem_cons, List.not_mem_nil, or_false] at hy
   rcases hy with rfl | rfl | rfl
   ·exact ho.a
   ·exact ho.b
   ·exact ho.c) (by simp; omega)]
  simp only [Option.bind_some, Sum.elim_inl]
  have ef : (o :: s).flatMap encO = encO o ++ s.flatMap encO := rfl
  rw [ef, <- List.append_assoc]
  have eo : b ++ [o.1] ++ encN o.2.1 ++ [o.2.2.1, o.2.2.2.1, o.2.2.2.2].flatMap encI = b ++ encO o := by simp [encO]
  rw [eo]
  exact h
theorem Encode_eq {k : Nat} (hk : 2000 <= k) {l : List Op} (hl : l.length <= 256) (h : ∀ o ∈ l, OpB o) : codec_Encode k l = some (l.flatMap encO, 0, ()) := by
 have h := encode_loop k (by omega) l [] k [] (by omega) (by simp; omega) (by simp; omega) h
 simp only [List.nil_append, List.length_nil] at h
 rw [show ((0 : Nat) : Int) = 0 from rfl] at h
 simp only [codec_Encode, cond_f (show ¬ (l.length : Int) > 256 by omega), h, Option.bind_some, Sum.elim_inl, Sum.elim_inr]
theorem encT_loop (k : Nat) (hk : 20 <= k) : ∀ (s pre : List Sl) (m : Nat) (b : List Int), s.length < m -> pre.length + s.length <= 1000 -> b.length + 100 * s.length <= 600000 -> (∀ x ∈ s, may x.1 = true /\ mayI x.2.1 = true /\ mayI x.2.2 = true) ->
  codec_EncodeTube_l0 k m (((), pre ++ s, ((pre ++ s).length : Int), (pre.length : Int), ()), ((), b, ())) = some (Sum.inl (((), ()), ((), b ++ s.flatMap (fun s => encN s.1 ++ (encI s.2.1 ++ encI s.2.2)), ()))) := by
 intro s
 induction s with
 | nil =>
  intro pre m b hm _ _ _
  obtain ⟨m, rfl⟩ : ∃ q, m = q + 1 := ⟨m - 1, by omega⟩
  simp only [codec_EncodeTube_l0, cond_f (len_ge pre)]
  simp
 | cons o s ih =>
  intro pre m b hm hl hb hx
  simp only [List.length_cons] at hm hl hb
  obtain ⟨m, rfl⟩ : ∃ q, m = q + 1 := ⟨m - 1, by omega⟩
  have n1 := encN_len o.1
  have n2 := encI_len o.2.1
  have n3 := encI_len o.2.2
  obtain ⟨x1, x2, x3⟩ := hx o (by simp)
  have h := ih (pre ++ [o]) m (b ++ (encN o.1 ++ (encI o.2.1 ++ encI o.2.2))) (by omega) (by simp; omega) (by simp; omega) (fun y hy => hx y (by simp [hy]))
  rw [mid_eq, len_snoc] at h
  simp only [codec_EncodeTube_l0, cond_t (len_lt pre o s), if_pos (Int.natCast_nonneg pre.length), at_mid, Option.bind_some, wrap_succ (show pre.length <= 1000000000 by omega)]
  erw [wnum_eq hk x1 (by omega)]
  simp only [Option.bind_some, Sum.elim_inl]
  erw [wiv_eq hk (l := [o.2.1, o.2.2]) (by simp) (by
   intro y hy
   simp only [List.mem_cons, List.not_mem_nil, or_false] at hy
   rcases hy with rfl | rfl
   ·exact x2
   ·exact x3) (by simp; omega)]
  simp only [Option.bind_some, Sum.elim_inl]
  have eo : b ++ encN o.1 ++ [o.2.1, o.2.2].flatMap encI = b ++ (encN o.1 ++ (encI o.2.1 ++ encI o.2.2)) := by simp
  have ef : ∀ f : Sl -> List Int, b ++ (o :: s).flatMap f = (b ++ f o) ++ s.flatMap f := fun f => by simp
  rw [eo, ef]
  exact h
theorem okS_all : ∀ {l : List Sl} {w : Nm}, okS w l = true -> ∀ s ∈ l, may s.1 = true /\ mayI s.2.1 = true /\ mayI s.2.2 = true
 | [], _, _, s, hs => by cases hs
 | x :: l, w, h, s, hs => by
  simp only [okS, Bool.and_eq_true, finite] at h
  rcases List.mem_cons.1 hs with rfl | hs
  ·exact ⟨h.1.1.1.1.1, h.1.1.2, h.1.2⟩
  ·exact okS_all h.2 s hs
theorem mayT_nums {t : Tb} (h : mayT t = true) : may t.1 = true /\ mayI t.2.1 = true /\ t.2.2.length <= 64 /\ ∀ s ∈ t.2.2, may s.1 = true /\ mayI s.2.1 = true /\ mayI s.2.2 = true := by
 simp only [mayT, Bool.and_eq_true, decide_eq_true_eq, finite] at h
 exact ⟨h.1.1.1.1, h.1.1.2, h.1.2, okS_all h.2⟩
theorem EncodeTube_eq {k : Nat} (hk : 2000 <= k) {t : Tb} (h : mayT t = true) : codec_EncodeTube k t = some (encT t, 0, ()) := by
 obtain ⟨h1, h2, h3, h4⟩ := mayT_nums h
 have n1 := encN_len t.1
 have n2 := encI_len t.2.1
 have hl := encT_loop k (by omega) t.2.2 [] k (((t.2.2.length : Int) :: encN t.1) ++ encI t.2.1) (by omega) (by simp; omega) (by simp; omega) h4
 simp only [List.nil_append, List.length_nil] at hl
 rw [show ((0 : Nat) : Int) = 0 from rfl] at hl
 have w0 : IntKind.u8.wrap (t.2.2.length : Int) = (t.2.2.length : Int) := by rw [u8m]; omega
 simp only [codec_EncodeTube, tube_May_eq k (by omega), h, Option.bind_some, Bool.not_true, cond_false, w0]
 erw [wnum_eq (by omega) h1 (by simp)]
 simp only [Option.bind_some, Sum.elim_inl]
 erw [wiv_eq (by omega) (l := [t.2.1]) (by simp) (by simpa using h2) (by simp; omega)]
 simp only [Option.bind_some, Sum.elim_inl]
 have e1 : [(t.2.2.length : Int)] ++ encN t.1 ++ [t.2.1].flatMap encI = ((t.2.2.length : Int) :: encN t.1) ++ encI t.2.1 := by simp
 rw [e1, hl]
 simp only [Option.bind_some, Sum.elim_inl, encT]
 simp
theorem rtake_eq (k : Nat) (l r : List Int) (bad : Bool) {n : Int} (hn : n = (l.length : Int)) : codec_rest_take_s k (((), (), n, ()), ((l ++ r, bad), ())) = some (Sum.inl (((), l, ()), ((r, bad), ()))) := by
 subst hn
 have c1 : ¬ ((l ++ r).length : Int) < (l.length : Int) := by simp; omega
 have c2 : (0 : Int) <= (l.length : Int) /\ (l.length : Int) <= (l.length : Int) /\ (l.length : Int) <= ((l ++ r).length : Int) := ⟨by omega, by omega, by simp; omega⟩
 have c3 : (0 : Int) <= (l.length : Int) /\ (l.length : Int) <= ((l ++ r).length : Int) /\ ((l ++ r).length : Int) <= ((l ++ r).length : Int) := ⟨by omega, by simp; omega, by omega⟩
 simp only [codec_rest_take_s, cond_f c1, if_pos c2, if_pos c3, Int.toNat_natCast]
 rw [List.take_left, List.take_length, List.drop_left]
theorem take1 (k : Nat) (c : Int) (r : List Int) (bad : Bool) : codec_rest_take_s k (((), (), 1, ()), ((c :: r, bad), ())) = some (Sum.inl (((), [c], ()), ((r, bad), ()))) :=
 rtake_eq k [c] r bad rfl
theorem or_byte {a c : Int} (h0 : 0 <= a) (h1 : a * 256 < 18446744073709551616) (c0 : 0 <= c) (c1 : c < 256) : Go.bits .or .u64 (a * 256) c = a * 256 + c := by
 have e64 : (2 : Int) ^ 64 = 18446744073709551616 := rfl
 have e8 : (2 : Int) ^ 8 = 256 := rfl
 exact bits_join .u64 64 (by decide) wraps_u64 8 (a * 256) c (by omega) (by omega) (by omega) c0 (by omega) (by omega)
theorem rword_loop (k : Nat) (st : List Int × Bool) : ∀ (s pre : List Int) (m : Nat) (a : Int), s.length < m -> pre.length + s.length <= 1000 -> s.length <= 8 -> 0 <= a -> (a + 1) * 2 ^ (8 * s.length) <= 18446744073709551616 -> (∀ c ∈ s, 0 <= c /\ c < 256) ->
  codec_rest_word_s_l0 k m (((), a, pre ++ s, ((pre ++ s).length : Int), (pre.length : Int), ()), (st, ())) = some (Sum.inl (((), s.foldl (fun a c => a * 256 + c) a, ()), (st, ()))) := by
 intro s
 induction s with
 | nil =>
  intro pre m a hm _ _ _ _ _
  obtain ⟨m, rfl⟩ : ∃ q, m = q + 1 := ⟨m - 1, by omega⟩
  simp only [codec_rest_word_s_l0, cond_f (len_ge pre), List.foldl_nil]
 | cons c s ih =>
  intro pre m a hm hl h8 h0 h1 hc
  simp only [List.length_cons] at hm hl h8 h1
  obtain ⟨m, rfl⟩ : ∃ q, m = q + 1 := ⟨m - 1, by omega⟩
  obtain ⟨c0, c1⟩ := hc c (by simp)
  have e : (2 : Int) ^ (8 * (s.length + 1)) = 256 * 2 ^ (8 * s.length) := by rw [show 8 * (s.length + 1) = 8 + 8 * s.length by omega, p2_add]; rfl
  rw [e] at h1
  have hp := p2_pos (8 * s.length)
  have hq : (a * 256 + c + 1) * 2 ^ (8 * s.length) <= 18446744073709551616 := by
   have : (a * 256 + c + 1) * 2 ^ (8 * s.length) <= ((a + 1) * 256) * 2 ^ (8 * s.length) := Int.mul_le_mul_of_nonneg_right (by omega) (by omega)
   rw [Int.mul_assoc] at this
   omega
  have hb : (a + 1) * 256 <= 18446744073709551616 := by
   have : (a + 1) * (256 * 1) <= (a + 1) * (256 * 2 ^ (8 * s.length)) := Int.mul_le_mul_of_nonneg_left (by omega) (by omega)
   omega
  have h := ih (pre ++ [c]) m (a * 256 + c) (by omega) (by simp; omega) (by omega) (by omega) hq (fun y hy => hc y (by simp [hy]))
  rw [mid_eq, len_snoc] at h
  have w1 : IntKind.u64.wrap (a * 2 ^ min (Int.toNat 8) IntKind.u64.bits) = a * 256 := (shlR (s := 8) (by omega)).trans (by rw [show (2 : Int) ^ 8 = 256 from rfl]; omega)
  simp only [codec_rest_word_s_l0, cond_t (len_lt pre c s), if_pos (Int.natCast_nonneg pre.length), at_mid, Option.bind_some, w1, u64w c0 (show c < 18446744073709551616 by omega), orR, or_byte h0 (show a * 256 < 18446744073709551616 by omega) c0 c1, wrap_succ (show pre.length <= 1000000000 by omega)]
  rw [h]
  rfl
theorem rword_eq {k : Nat} (hk : 20 <= k) {n : Int} (s : Nat) (hs : s <= 8) (h0 : 0 <= n) (h1 : n < 2 ^ (8 * s)) (r : List Int) (bad : Bool) : codec_rest_word_s k (((), (), (s : Int), ()), ((wordL n s ++ r, bad), ())) = some (Sum.inl (((), n, ()), ((r, bad), ()))) := by
 have hl := wordL_len n s
 have h := rword_loop k (r, bad) (wordL n s) [] k 0 (by omega) (by simp; omega) (by omega) (by omega) (by
  rw [hl, Int.zero_add, Int.one_mul]
  exact p2_mono (show 8 * s <= 64 by omega)) (fun c hc => wordL_mem hc)
 simp only [List.nil_append, List.length_nil] at h
 rw [show ((0 : Nat) : Int) = 0 from rfl, fold_word, Int.zero_mul, Int.zero_add, Int.emod_eq_of_lt h0 h1] at h
 have ht := rtake_eq k (wordL n s) r bad (n := (s : Int)) (by rw [hl])
 simp only [codec_rest_word_s]
 erw [ht]
 simp only [Option.bind_some, Sum.elim_inl]
 erw [h]
 simp only [Option.bind_some, Sum.elim_inl]
theorem rnum_eq {k : Nat} (hk : 20 <= k) {n : Nm} (hn : may n = true) (hw : wfN n) (r : List Int) : codec_reader_num_s k (((), (), ()), ((encN n ++ r, false), ())) = some (Sum.inl (((), (), ()), ((r, false), n, ()))) := by
 rcases may_cases hn with rfl | ⟨h1, h2, h3, h4⟩ | ⟨h1, h2, h3⟩
 ·simp only [codec_reader_num_s]
  erw [take1]
  rfl
 ·obtain ⟨a, b, c, d⟩ := n
  simp only at h1 h2 h3 h4
  subst h1
  have hc : c < 18446744073709551616 := hw
  have e8 := fun r => rword_eq hk (n := c) 8 (by omega) (by omega) (by exact hc) r false
  have e4 := rword_eq hk (n := d + 1048576) 4 (by omega) (by omega) (show d + 1048576 < 4294967296 by omega) r false
  have hd : IntKind.i64.wrap (IntKind.i64.wrap (d + 1048576) - 1048576) = d := by rw [w64 (x := d + 1048576) (by omega) (by omega), w64 (x := d + 1048576 - 1048576) (by omega) (by omega)]; omega
  have g3 : ([3] : List Int)[Int.toNat 0]? = some 3 := rfl
  have g4 : ([4] : List Int)[Int.toNat 0]? = some 4 := rfl
  cases b
  ·have ee : encN (1, false, c, d) ++ r = 3 :: (wordL c 8 ++ (wordL (d + 1048576) 4 ++ r)) := by simp [encN]
   rw [ee]
   simp only [codec_reader_num_s]
   erw [take1]
   simp only [Option.bind_some, Sum.elim_inl, if_pos (Nat.le_refl 0), g3, Int.reduceBEq, cond_true, cond_false]
   erw [e8]
   simp only [Option.bind_some, Sum.elim_inl]
   erw [e4]
   simp only [Option.bind_some, Sum.elim_inl, hd, num_May_eq, hn]
   rfl
  ·have ee : encN (1, true, c, d) ++ r = 4 :: (wordL c 8 ++ (wordL (d + 1048576) 4 ++ r)) := by simp [encN]
   rw [ee]
   simp only [codec_reader_num_s]
   erw [take1]
   simp only [Option.bind_some, Sum.elim_inl, if_pos (Nat.le_refl 0), g4, Int.reduceBEq, cond_true, cond_false]
   erw [e8]
   simp only [Option.bind_some, Sum.elim_inl]
   erw [e4]
   simp only [Option.bind_some, Sum.elim_inl, hd, num_May_eq, hn]
   rfl
 ·obtain ⟨a, b, c, d⟩ := n
  simp only at h1 h2 h3
  subst h1 h2 h3
  cases b
  all_goals
   simp only [codec_reader_num_s]
   erw [take1]
   rfl
theorem riv_eq {k : Nat} (hk : 20 <= k) {x : Iv} (hx : mayI x = true) (hw : wfI x) (r : List Int) : codec_reader_iv_s k (((), (), ()), ((encI x ++ r, false), ())) = some (Sum.inl (((), (), ()), ((r, false), x, ()))) := by
 obtain ⟨m1, m2, m3⟩ := mayI_parts hx
 obtain ⟨a, lo, hi⟩ := x
 cases a
 ·have ee : encI (false, lo, hi) ++ r = 1 :: (encN lo ++ (encN hi ++ r)) := by simp [encI]
  have z0 : ((1 : Int) == 0) = false := rfl
  have z1 : ((1 : Int) == 1) = true := rfl
  have g0 : ([1] : List Int)[Int.toNat 0]? = some 1 := rfl
  rw [ee]
  simp only [codec_reader_iv_s]
  erw [take1]
  simp only [Option.bind_some, Sum.elim_inl, g0, z0, z1, cond_false, cond_true, if_pos (Nat.le_refl 0)]
  erw [rnum_eq hk m1 hw.1]
  simp only [Option.bind_some, Sum.elim_inl]
  erw [rnum_eq hk m2 hw.2]
  simp only [Option.bind_some, Sum.elim_inl, iv_May_eq, hx]
  rfl
 ·obtain ⟨rfl, rfl⟩ := Prod.mk.inj (Prod.mk.inj (m3 rfl)).2
  simp only [codec_reader_iv_s]
  erw [take1]
  rfl
theorem decode_loop (k : Nat) (hk : 20 <= k) : ∀ (s pre : List Op) (m : Nat), s.length < m -> pre.length + s.length <= 256 -> (∀ x ∈ s, OpB x) ->
  codec_Decode_l0 k m (((), (), ()), ((s.flatMap encO, false), pre, ())) = some (Sum.inr (Sum.inl (((), ()), (pre ++ s, ())))) := by
 intro s
 induction s with
 | nil =>
  intro pre m hm _ _
  obtain ⟨m, rfl⟩ : ∃ q, m = q + 1 := ⟨m - 1, by omega⟩
  simp only [codec_Decode_l0, List.flatMap_nil, List.append_nil, cond_f (show ¬ (([] : List Int).length : Int) > 0 by simp)]
 | cons o s ih =>
  intro pre m hm hl hx
  simp only [List.length_cons] at hm hl
  obtain ⟨m, rfl⟩ : ∃ q, m = q + 1 := ⟨m - 1, by omega⟩
  have ho := hx o (by simp)
  have h := ih (pre ++ [o]) m (by omega) (by simp; omega) (fun y hy => hx y (by simp [hy]))
  have h0 := ho.lo
  have h3 := ho.hi
  have w0 : IntKind.i64.wrap o.1 = o.1 := w64 (by omega) (by omega)
  have ef : (o :: s).flatMap encO = o.1 :: (encN o.2.1 ++ (encI o.2.2.1 ++ (encI o.2.2.2.1 ++ (encI o.2.2.2.2 ++ s.flatMap encO)))) := by
   rw [List.flatMap_cons]; simp [encO]
  have hn : ((pre.length : Int) == 256) = false := beq_f (by omega)
  have hl1 : (pre.length + [o].length) * 256 <= 140737488355328 := by simp; omega
  have g0 : ([o.1] : List Int)[Int.toNat 0]? = some o.1 := rfl
  rw [ef]
  simp only [codec_Decode_l0, cond_t (show (((o.1 :: (encN o.2.1 ++ (encI o.2.2.1 ++ (encI o.2.2.2.1 ++ (encI o.2.2.2.2 ++ s.flatMap encO))))) : List Int).length : Int) > 0 by rw [List.length_cons]; omega), hn, cond_false]
  erw [take1]
  simp only [Option.bind_some, Sum.elim_inl, g0, if_pos (Nat.le_refl 0)]
  erw [rnum_eq hk ho.t ho.wf.1]
  simp only [Option.bind_some, Sum.elim_inl]
  erw [riv_eq hk ho.a ho.wf.2.1]
  simp only [Option.bind_some, Sum.elim_inl]
  erw [riv_eq hk ho.b ho.wf.2.2.1]
  simp only [Option.bind_some, Sum.elim_inl]
  erw [riv_eq hk ho.c ho.wf.2.2.2]
  simp only [Option.bind_some, Sum.elim_inl, w0, cond_false]
  erw [codec_may_eq k ho]
  simp only [Option.bind_some, Bool.not_true, cond_false]
  erw [if_pos hl1]
  erw [h]
  simp
theorem Decode_eq {k : Nat} (hk : 2000 <= k) {l : List Op} (hl : l.length <= 256) (h : ∀ o ∈ l, OpB o) : codec_Decode k (l.flatMap encO) = some (l, 0, ()) := by
 have h := decode_loop k (by omega) l [] k (by omega) (by simpa using hl) h
 simp only [codec_Decode]
 erw [h]
 simp only [Option.bind_some, Sum.elim_inl, Sum.elim_inr, List.nil_append]
theorem decT_loop (k : Nat) (hk : 20 <= k) (n : Int) (a : Nm) (b : Iv) (t : Tb) (r : List Int) : ∀ (s pre : List Sl) (m : Nat), s.length < m -> pre.length + s.length <= 256 -> n = ((pre.length + s.length : Nat) : Int) -> (∀ x ∈ s, (may x.1 = true /\ mayI x.2.1 = true /\ mayI x.2.2 = true) /\ wfS x) ->
  codec_DecodeTube_l0 k m (((), (), (), n, (pre.length : Int), ()), (t, (s.flatMap (fun s => encN s.1 ++ (encI s.2.1 ++ encI s.2.2)), false), (a, (b, ())), pre, ())) =
   some (Sum.inl (((), (), (), ()), (t, ([], false), (a, (b, ())), pre ++ s, ()))) := by
 intro s
 induction s with
 | nil =>
  intro pre m hm _ hn _
  obtain ⟨m, rfl⟩ : ∃ q, m = q + 1 := ⟨m - 1, by omega⟩
  have hn : ¬ (pre.length : Int) < n := by simp at hn; omega
  simp only [codec_DecodeTube_l0, List.flatMap_nil, List.append_nil, cond_f hn]
 | cons o s ih =>
  intro pre m hm hl hn hx
  simp only [List.length_cons] at hm hl hn
  obtain ⟨m, rfl⟩ : ∃ q, m = q + 1 := ⟨m - 1, by omega⟩
  obtain ⟨⟨x1, x2, x3⟩, y1, y2, y3⟩ := hx o (by simp)
  have h := ih (pre ++ [o]) m (by omega) (by simp; omega) (by simp; omega) (fun y hy => hx y (by simp [hy]))
  rw [len_snoc] at h
  have ef : (o :: s).flatMap (fun s : Sl => encN s.1 ++ (encI s.2.1 ++ encI s.2.2)) = encN o.1 ++ (encI o.2.1 ++ (encI o.2.2 ++ s.flatMap (fun s => encN s.1 ++ (encI s.2.1 ++ encI s.2.2)))) := by
   rw [List.flatMap_cons]; simp
  have hl1 : (pre.length + [o].length) * 176 <= 140737488355328 := by simp; omega
  rw [ef]
  simp only [codec_DecodeTube_l0, cond_t (show (pre.length : Int) < n by omega), wrap_succ (show pre.length <= 1000000000 by omega)]
  erw [rnum_eq hk x1 y1]
  simp only [Option.bind_some, Sum.elim_inl]
  erw [riv_eq hk x2 y2]
  simp only [Option.bind_some, Sum.elim_inl]
  erw [riv_eq hk x3 y3]
  simp only [Option.bind_some, Sum.elim_inl]
  erw [if_pos hl1]
  erw [h]
  simp
theorem DecodeTube_eq {k : Nat} (hk : 2000 <= k) {t : Tb} (h : mayT t = true) (hw : wfT t) : codec_DecodeTube k (encT t) = some (t, 0, ()) := by
 obtain ⟨h1, h2, h3, h4⟩ := mayT_nums h
 have hl := decT_loop k (by omega) (t.2.2.length : Int) t.1 t.2.1 ((0, false, 0, 0), ((false, (0, false, 0, 0), 0, false, 0, 0), [])) [] t.2.2 [] k (by omega) (by simp; omega) (by simp) (fun x hx => ⟨h4 x hx, hw.2.2 x hx⟩)
 rw [List.length_nil, show ((0 : Nat) : Int) = 0 from rfl, List.nil_append] at hl
 have w0 : IntKind.i64.wrap (t.2.2.length : Int) = (t.2.2.length : Int) := w64 (by omega) (by omega)
 have g0 : ([(t.2.2.length : Int)] : List Int)[Int.toNat 0]? = some (t.2.2.length : Int) := rfl
 simp only [codec_DecodeTube, encT]
 erw [take1]
 simp only [Option.bind_some, Sum.elim_inl, g0, if_pos (Nat.le_refl 0), w0]
 erw [rnum_eq (by omega) h1 hw.1]
 simp only [Option.bind_some, Sum.elim_inl]
 erw [riv_eq (by omega) h2 hw.2.1]
 simp only [Option.bind_some, Sum.elim_inl]
 erw [hl]
 simp only [Option.bind_some, Sum.elim_inl, cond_false, List.length_nil, cond_f (show ¬ ((0 : Nat) : Int) > 0 by omega)]
 erw [tube_May_eq k (by omega) t]
 simp only [Option.bind_some, h, Bool.not_true, cond_false]
structure Qe (e : En) : Prop where
 j : J e
 r : R e
 o : ∀ o ∈ e.ops, OpB o
 t : mayT e.t0 = true
theorem done_OpB {e : En} {o : Op} (ho : wfO o) (hr : (doE e o).2 = 0) : OpB o := by
 have h : mayO o = true := by
  unfold doE at hr
  cases h : mayO o
  ·rw [if_pos h] at hr; cases hr
  ·rfl
 simp only [mayO, Bool.and_eq_true, decide_eq_true_eq, fullI] at h
 refine ⟨h.1.1.1.1.1.1, h.1.1.1.1.1.2, h.1.1.1.1.2, h.1.1.2.1, h.1.2.1, ?_, ho⟩
 have hc := h.2
 split at hc
 ·simp only [Bool.and_eq_true] at hc; exact hc.1
 ·rw [of_decide_eq_true hc]; decide
theorem Qe.do {e : En} (h : Qe e) {o : Op} (ho : wfO o) : Qe (doE e o).1 := by
 by_cases hr : (doE e o).2 = 0
 ·obtain ⟨j', h1, hb, _⟩ := do_done h.j ho hr
  refine ⟨j', h.r.do h.j ho, fun x hx => ?_, j'.m0 hb⟩
  rw [h1] at hx
  rcases List.mem_append.1 hx with hx | hx
  ·exact h.o x hx
  ·rw [List.mem_singleton.1 hx]; exact done_OpB ho hr
 ·rw [do_refused h.j hr]; exact h
theorem told_Q : ∀ {l : List Op} {e : En}, Qe e -> (∀ o ∈ l, wfO o) -> Qe (toldE l e)
 | [], _, h, _ => h
 | o :: l, e, h, hl => told_Q (l := l) (h.do (hl o (by simp))) (fun x hx => hl x (by simp [hx]))
theorem Q00 : Qe e00 := ⟨J00, ⟨trivial, rfl⟩, (fun o h => by cases h), by decide⟩
theorem beqO (x : Op) : beqT (.pair (.int .i64) (.pair TNm (.pair TIv (.pair TIv TIv)))) x x = true := by
 obtain ⟨a, b, c, d, e⟩ := x
 rw [show beqT (.pair (.int .i64) (.pair TNm (.pair TIv (.pair TIv TIv)))) (a, b, c, d, e) (a, b, c, d, e) = ((a == a) && (beqT TNm b b && (beqT TIv c c && (beqT TIv d d && beqT TIv e e)))) from rfl, beqN, beqI, beqI, beqI]
 simp
theorem same23_loop (k : Nat) : ∀ (s pre : List Op) (m : Nat), s.length < m -> pre.length + s.length <= 1000 ->
  pelorusref23_Same_l0 k m ((pre ++ s, pre ++ s, (pre.length : Int), ()), ()) = some (Sum.inr (Sum.inl ((), ()))) := by
 intro s
 induction s with
 | nil =>
  intro pre m hm _
  obtain ⟨m, rfl⟩ : ∃ q, m = q + 1 := ⟨m - 1, by omega⟩
  simp only [pelorusref23_Same_l0, cond_f (len_ge pre)]
 | cons o s ih =>
  intro pre m hm hl
  simp only [List.length_cons] at hm hl
  obtain ⟨m, rfl⟩ : ∃ q, m = q + 1 := ⟨m - 1, by omega⟩
  have h := ih (pre ++ [o]) m (by omega) (by simp; omega)
  rw [mid_eq, len_snoc] at h
  simp only [pelorusref23_Same_l0, cond_t (len_lt pre o s), if_pos (Int.natCast_nonneg pre.length), at_mid, Option.bind_some, beqO, Bool.not_true, cond_false, wrap_succ (show pre.length <= 1000000000 by omega)]
  exact h
theorem same23_eq {k : Nat} (hk : 2000 <= k) {l : List Op} (hl : l.length <= 256) : pelorusref23_Same k l l = some (true, ()) := by
 have h := same23_loop k l [] k (by omega) (by simp; omega)
 simp only [List.nil_append, List.length_nil] at h
 rw [show ((0 : Nat) : Int) = 0 from rfl] at h
 have hz : ((l.length : Int) != (l.length : Int)) = false := by simp
 simp only [pelorusref23_Same, hz, cond_false, h, Option.bind_some, Sum.elim_inl, Sum.elim_inr]
theorem awakeTop (j : Nat) : pelorustop_awake (j + 300) = some (true, ()) := by kernel_rfl
theorem replays_loop : ∀ (s pre : List Op) (e : En), J e -> (∀ o ∈ s, wfO o) -> pre.length + s.length <= 1000 -> ∃ K, ∀ k, K <= k -> ∀ m, s.length < m ->
  pelorustop_TopReplays_l0 k m ((pre ++ s, (), (pre.length : Int), ()), e.m) = some (Sum.inl (((), ()), (toldE s e).m)) := by
 intro s
 induction s with
 | nil =>
  intro pre e _ _ _
  refine ⟨0, fun k _ m hm => ?_⟩
  obtain ⟨m, rfl⟩ : ∃ i, m = i + 1 := ⟨m - 1, by omega⟩
  have h : ¬ (pre.length : Int) < ((pre ++ []).length : Int) := by simp
  simp only [pelorustop_TopReplays_l0, cond_f h]
  rfl
 | cons o s ih =>
  intro pre e h hs hl
  simp only [List.length_cons] at hl
  obtain ⟨K1, h1⟩ := do_eqJ h (hs o (by simp))
  obtain ⟨K2, h2⟩ := ih (pre ++ [o]) (doE e o).1 (do_J h (hs o (by simp))) (fun x hx => hs x (by simp [hx])) (by simp; omega)
  rw [mid_eq, len_snoc] at h2
  refine ⟨K1 + K2, fun k hk m hm => ?_⟩
  simp only [List.length_cons] at hm
  obtain ⟨m, rfl⟩ : ∃ i, m = i + 1 := ⟨m - 1, by omega⟩
  simp only [pelorustop_TopReplays_l0, cond_t (len_lt pre o s), if_pos (Int.natCast_nonneg pre.length), at_mid, Option.bind_some]
  erw [h1 k (by omega)]
  simp only [Option.bind_some, Sum.elim_inl, wrap_succ (show pre.length <= 1000000000 by omega)]
  exact h2 k (by omega) m (by omega)
theorem TopReplays (l : List Op) (hl : ∀ x ∈ l, wfO x) : ∃ k, pelorustop_TopReplays k l = some (true, ()) := by
 by_cases hlen : (l.length : Int) > 24
 ·refine ⟨300, ?_⟩
  simp only [pelorustop_TopReplays, awakeTop 0, Option.bind_some, Bool.not_true, cond_false, cond_t hlen, cond_true]
 ·have q := told_Q Q00 hl
  obtain ⟨K1, h1⟩ := replays_loop l [] e00 J00 hl (by simp; omega)
  obtain ⟨e, he⟩ : ∃ e, e = toldE l e00 := ⟨_, rfl⟩
  rw [<- he] at q h1
  have j := q.j
  have hno := j.no
  obtain ⟨K2, h2⟩ := againA_eq e.ops (fun o ho => (q.o o ho).wf) q.r.1 (by omega)
  rw [q.r.2] at h2
  refine ⟨K1 + K2 + 3000, ?_⟩
  obtain ⟨k, hk⟩ : ∃ k, k = K1 + K2 + 3000 := ⟨_, rfl⟩
  rw [<- hk]
  have aw : pelorustop_awake k = some (true, ()) := by
   rw [show k = (k - 300) + 300 by omega]; exact awakeTop _
  have e1 := h1 k (by omega) k (by omega)
  have e2 := h2 k (by omega)
  simp only [List.nil_append, List.length_nil] at e1
  rw [show ((0 : Nat) : Int) = 0 from rfl] at e1
  have l0 := j.wf.l0
  have l1 := j.wf.l1
  have z0 : ((0 : Int) != 0) = false := rfl
  have z1 : ((e.ops.length : Int) != (e.ops.length : Int)) = false := by simp
  have sx : pelorusref17_Same k e.t0 e.t0 = some (true, ()) := (same_eq k e.t0 e.t0 (by omega) (by omega)).trans (by rw [decide_eq_true rfl])
  have sy : pelorusref17_Same k e.t1 e.t1 = some (true, ()) := (same_eq k e.t1 e.t1 (by omega) (by omega)).trans (by rw [decide_eq_true rfl])
  simp only [pelorustop_TopReplays, aw, Option.bind_some, Bool.not_true, cond_false, cond_f hlen]
  erw [e1]
  simp only [Option.bind_some, Sum.elim_inl]
  erw [Ops_eq k e j.no]
  simp only [Option.bind_some, Sum.elim_inl]
  erw [Encode_eq (by omega) j.no q.o]
  simp only [Option.bind_some]
  erw [Decode_eq (by omega) j.no q.o]
  simp only [Option.bind_some]
  erw [e2]
  simp only [Option.bind_some, Sum.elim_inl, z0, cond_false]
  erw [Ops_eq k e j.no]
  simp only [Option.bind_some, Sum.elim_inl, z1, cond_false]
  erw [X_eq k e j.wf.l0]
  simp only [Option.bind_some, Sum.elim_inl]
  erw [EncodeTube_eq (by omega) q.t]
  simp only [Option.bind_some]
  erw [DecodeTube_eq (by omega) q.t j.wf.t0]
  simp only [Option.bind_some]
  erw [X_eq k e j.wf.l0]
  simp only [Option.bind_some, Sum.elim_inl]
  erw [sx]
  simp only [Option.bind_some]
  erw [Y_eq k e j.wf.l1]
  simp only [Option.bind_some, Sum.elim_inl]
  erw [sy]
  simp only [Option.bind_some]
  erw [X_eq k e j.wf.l0]
  simp only [Option.bind_some, Sum.elim_inl]
  erw [sx]
  simp only [Option.bind_some]
  erw [Ops_eq k e j.no]
  simp only [Option.bind_some, Sum.elim_inl]
  erw [same23_eq (by omega) j.no]
  simp only [Option.bind_some, cond_true, beq_self_eq_true]
  erw [Lost_eq k (by omega) e]
  simp only [Option.bind_some, Sum.elim_inl, beq_self_eq_true]
end Go.Proofs.YtliiapjinminlaaGreat.Rf.Pl
