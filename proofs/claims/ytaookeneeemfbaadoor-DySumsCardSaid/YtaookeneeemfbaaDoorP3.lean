/- Plain laws: what the functions answer, without the program's memory (part 3). No condition. -/
import Derived.Test.YtaookeneeemfbaaDoorP2
import Derived.KernelRfl
import Derived.DataShut
import Derived.Laws.BitsLemmas
import Derived.Lib.EndianBits
namespace Go.Proofs.YtaookeneeemfbaaDoor.Rf.Pl
open Go Go.Proofs
set_option linter.unusedVariables false
set_option linter.unusedSimpArgs false
/-! ### the document's exact numbers, of limbs and a power -/
theorem bl_of_len {l : List Int} (h : U l) {L : Nat} (hl : l.length ≤ L) : bl (val l) ≤ (32 * L : Nat) := by
  refine bl_le ?_
  rw [← p2_limb]
  exact Int.lt_of_lt_of_le (val_lt h) (pw_mono hl)
theorem Z.up {n : Bool} {l : List Int} {e f S : Int} {N : Nat} (h : Z n l e f S N) {d : Dd} (hr : Rep d (sg n (val l)) e) : Rep d S f := by
  have hj : e = f + ((e - f).toNat : Nat) := by have := h.lo; omega
  have h2 : Rep d (sg n (val l)) (f + ((e - f).toNat : Nat)) := by rw [← hj]; exact hr
  have := h2.scale
  rw [← h.eq] at this
  exact this
theorem rmk_z {n : Bool} {l : List Int} {e f S : Int} {N : Nat} (h : Z n l e f S N) (f0 : -1000000 ≤ f) : ∃ d, Rep d S f ∧ ∃ K, ∀ k, K ≤ k → pelorusref03_Make k (n, l) e = some (dd d, ()) := by
  have hb := bl_of_len h.u h.len
  have hl := h.len
  have lo := h.lo
  have hi := h.hi
  obtain ⟨d, hd, hK⟩ := make3_ev n l e h.u (by omega) (by omega) (by omega) (by omega)
  exact ⟨d, h.up hd, hK⟩
theorem rep_mk {d : Dd} {S f : Int} {N : Nat} (h : Rep d S f) (hb : (S.natAbs : Int) < 2 ^ N) (hN : N ≤ 60000) (f0 : -1000000 ≤ f) (f1 : f ≤ 0) : ∃ K, ∀ k, K ≤ k → pelorusref03_Make k (dd d).1 (dd d).2 = some (dd d, ()) := by
  obtain ⟨d', hd, hK⟩ := rmk_z (Z.of_rep h hb hN f0 f1) f0
  rw [hd.un h] at hK
  exact hK
theorem rtwo_z {n n' : Bool} {l l' : List Int} {e e' f S T : Int} {N : Nat} (h : Z n l e f S N) (h' : Z n' l' e' f T N) (hN : N ≤ 60000) (f0 : -1000000 ≤ f) (f1 : f ≤ 0) :
    ∃ d, Rep d (S + T) f ∧ ∃ K, ∀ k, K ≤ k → pelorusref03_Two k ((n, l), e) ((n', l'), e') = some (dd d, ()) := by
  obtain ⟨a, ha, K1, h1⟩ := rmk_z h f0
  obtain ⟨b, hb, K2, h2⟩ := rmk_z h' f0
  obtain ⟨K3, h3⟩ := rep_mk ha h.bd hN f0 f1
  obtain ⟨K4, h4⟩ := rep_mk hb h'.bd hN f0 f1
  have b1 := bl_le h.bd
  have b2 := bl_le h'.bd
  obtain ⟨d, hd, K5, h5⟩ := two_ev ha hb N (by omega) b1 b2 (by omega) (by omega)
  refine ⟨d, hd, K1 + K2 + K3 + K4 + K5, fun k hk => ?_⟩
  have q := h5 k (by omega)
  simp only [pelorusref03_Two] at q ⊢
  rw [h3 k (by omega), Option.bind_some, h4 k (by omega), Option.bind_some] at q
  rw [h1 k (by omega), Option.bind_some, h2 k (by omega), Option.bind_some]
  exact q
theorem rneg2_ev (n : Bool) (l : List Int) (h : U l) (hb : l.length ≤ 1073741824) : ∃ K, ∀ k, K ≤ k → pelorusref02_Neg k (n, l) = some (nw (-sg n (val l)), ()) := by
  obtain ⟨K, hK⟩ := make2_ev (!n) l h hb
  refine ⟨K, fun k hk => ?_⟩
  simp only [pelorusref02_Neg]
  rw [hK k hk, Option.bind_some, nw_of (!n) (val_nonneg h), sg_neg]
theorem rneg_z {n : Bool} {l : List Int} {e f S : Int} {N : Nat} (h : Z n l e f S N) (hN : N ≤ 60000) (f0 : -1000000 ≤ f) : ∃ d, Rep d (-S) f ∧ ∃ K, ∀ k, K ≤ k → pelorusref03_Neg k ((n, l), e) = some (dd d, ()) := by
  have hl := h.len
  obtain ⟨K1, h1⟩ := rneg2_ev n l h.u (by omega)
  have eS : -S = -sg n (val l) * 2 ^ (e - f).toNat := by rw [h.eq, Int.neg_mul]
  have z : Z (nw (-sg n (val l))).1 (nw (-sg n (val l))).2 e f (-S) N := by
    rw [eS]
    exact Z.nw h.lo h.hi hN (by rw [← eS, Int.natAbs_neg]; exact h.bd)
  obtain ⟨d, hd, K2, h2⟩ := rmk_z z f0
  refine ⟨d, hd, K1 + K2, fun k hk => ?_⟩
  simp only [pelorusref03_Neg]
  rw [h1 k (by omega), Option.bind_some]
  erw [h2 k (by omega)]
  rfl
theorem rsub_z {n n' : Bool} {l l' : List Int} {e e' f S T : Int} {N : Nat} (h : Z n l e f S N) (h' : Z n' l' e' f T N) (hN : N ≤ 60000) (f0 : -1000000 ≤ f) (f1 : f ≤ 0) :
    ∃ d, Rep d (S - T) f ∧ ∃ K, ∀ k, K ≤ k → pelorusref03_Sub k ((n, l), e) ((n', l'), e') = some (dd d, ()) := by
  obtain ⟨q, hq, K1, h1⟩ := rneg_z h' hN f0
  obtain ⟨d, hd, K2, h2⟩ := rtwo_z h (Z.of_rep hq (abs_neg h'.bd) hN f0 f1) hN f0 f1
  refine ⟨d, by rw [Int.sub_eq_add_neg]; exact hd, K1 + K2, fun k hk => ?_⟩
  simp only [pelorusref03_Sub]
  rw [h1 k (by omega), Option.bind_some]
  erw [h2 k (by omega)]
  rfl
theorem rsign_ev (n : Bool) (l : List Int) (h : U l) (hb : l.length ≤ 1073741824) : ∃ K, ∀ k, K ≤ k → pelorusref02_Sign k (n, l) = some (sgz (sg n (val l)), ()) := by
  obtain ⟨K, hK⟩ := make2_ev n l h hb
  have hn := val_nonneg h
  refine ⟨K, fun k hk => ?_⟩
  simp only [pelorusref02_Sign]
  rw [hK k hk, Option.bind_some, sgz_sg n hn]
  have nl := lim_nil_iff hn
  by_cases z : val l = 0
  · rw [z, if_pos rfl, show lim 0 = [] from limN_zero]; rfl
  · have c : ¬ ((lim (val l)).length : Int) = 0 := by omega
    rw [if_neg z]
    simp only [beq_f c, cond_false, decide_eq_true z, Bool.and_true]
    cases n <;> rfl
theorem rcmp_z {n n' : Bool} {l l' : List Int} {e e' f S T : Int} {N : Nat} (h : Z n l e f S N) (h' : Z n' l' e' f T N) (hN : N ≤ 50000) (f0 : -1000000 ≤ f) (f1 : f ≤ 0) :
    ∃ K, ∀ k, K ≤ k → pelorusref03_Cmp k ((n, l), e) ((n', l'), e') = some (sgz (S - T), ()) := by
  obtain ⟨d, hd, K1, h1⟩ := rsub_z h h' (by omega) f0 f1
  have z := Z.of_rep hd (by rw [Int.sub_eq_add_neg]; exact abs_add_lt h.bd (abs_neg h'.bd)) (by omega) f0 f1
  have hl := z.len
  obtain ⟨K2, h2⟩ := rsign_ev d.1 d.2.1 z.u (by omega)
  refine ⟨K1 + K2, fun k hk => ?_⟩
  simp only [pelorusref03_Cmp]
  rw [h1 k (by omega), Option.bind_some]
  erw [h2 k (by omega)]
  rw [Option.bind_some, z.eq, sgz_mulp]
theorem raddl_z (l : List DyR) (f : Int) (N : Nat) (hN : N ≤ 40000) (hl : l.length ≤ 1000) (f0 : -1000000 ≤ f) (f1 : f ≤ 0) (v : DyR → Int) (hz : ∀ x ∈ l, Z x.1.1 x.1.2 x.2 f (v x) N) (n : Nat) :
    ∀ (i : Nat) (p : Dd) (S : Int) (z : DyR), n + i = l.length → Rep p S f → (S.natAbs : Int) < 2 ^ (N + i) →
    ∃ d, Rep d (S + ((l.drop i).map v).sum) f ∧ ∃ K, ∀ k m, K ≤ k → K ≤ m → pelorusref03_Add_l0 k m ((l, (), (), (i : Int), ()), (z, dd p, ())) = some (Sum.inl (((), (), ()), (z, dd d, ()))) := by
  induction n with
  | zero =>
    intro i p S z hi hp hS
    rw [List.drop_of_length_le (by omega)]
    refine ⟨p, by simpa using hp, 1, fun k m hk hm => ?_⟩
    obtain ⟨m, rfl⟩ : ∃ q, m = q + 1 := ⟨m - 1, by omega⟩
    have e : ¬ (i : Int) < (l.length : Int) := by omega
    simp only [pelorusref03_Add_l0, cond_f e]
  | succ n ih =>
    intro i p S z hi hp hS
    have hli : i < l.length := by omega
    have hm : l[i] ∈ l := List.getElem_mem hli
    have hzi := hz _ hm
    obtain ⟨d, hd, K2, h2⟩ := rtwo_z (Z.of_rep hp hS (by omega) f0 f1) (T := v l[i]) (N := N + i) ⟨hzi.u, hzi.len, hzi.lo, hzi.hi, hzi.eq, abs_mono hzi.bd (show N ≤ N + i by omega)⟩ (by omega) f0 f1
    obtain ⟨r, hr, K3, h3⟩ := ih (i + 1) d (S + v l[i]) z (by omega) hd (abs_add_lt hS (abs_mono hzi.bd (show N ≤ N + i by omega)))
    have es : S + ((l.drop i).map v).sum = S + v l[i] + ((l.drop (i + 1)).map v).sum := by
      rw [List.drop_eq_getElem_cons hli, List.map_cons, List.sum_cons, ← Int.add_assoc]
    refine ⟨r, by rw [es]; exact hr, K2 + K3 + 1, fun k m hk hm => ?_⟩
    obtain ⟨m, rfl⟩ : ∃ q, m = q + 1 := ⟨m - 1, by omega⟩
    have e : (i : Int) < (l.length : Int) := by omega
    have hg : l[i]? = some l[i] := List.getElem?_eq_getElem hli
    simp only [pelorusref03_Add_l0, cond_t e, if_pos (Int.natCast_nonneg i), Int.toNat_natCast, hg, Option.bind_some, wsu (show i < 4611686018427387904 by omega)]
    erw [h2 k (by omega)]
    rw [Option.bind_some]
    exact h3 k m (by omega) (by omega)
theorem raddn_z (l : List DyR) (f : Int) (N : Nat) (hN : N ≤ 40000) (hl : l.length ≤ 1000) (f0 : -1000000 ≤ f) (f1 : f ≤ 0) (v : DyR → Int) (hz : ∀ x ∈ l, Z x.1.1 x.1.2 x.2 f (v x) N) :
    ∃ d, Rep d ((l.map v).sum) f ∧ ∃ K, ∀ k, K ≤ k → pelorusref03_Add k l = some (dd d, ()) := by
  obtain ⟨p, hp, K, hK⟩ := raddl_z l f N hN hl f0 f1 v hz l.length 0 (false, [], 0) 0 ((false, []), 0) (by omega) (.inl ⟨rfl, rfl⟩) (by have := p2_pos (N + 0); simpa using this)
  refine ⟨p, by simpa using hp, K, fun k hk => ?_⟩
  have h := hK k k (by omega) (by omega)
  rw [show ((0 : Nat) : Int) = 0 from rfl] at h
  simp only [pelorusref03_Add]
  erw [h]
  rfl
theorem rmul2_ev (b c : Bool) (l m : List Int) (hl : U l) (hm : U m) (bl : l.length ≤ 100000000) (bm : m.length ≤ 100000000) : ∃ K, ∀ k, K ≤ k → pelorusref02_Two k (b, l) (c, m) = some (nw (sg b (val l) * sg c (val m)), ()) := by
  have nl := val_nonneg hl
  have nm := val_nonneg hm
  have np := Int.mul_nonneg nl nm
  have hlt : val l * val m < pw (l.length + m.length) := by
    have := B_mul (B_of false hl (Nat.le_refl l.length)) (B_of false hm (Nat.le_refl m.length))
    simp only [B, sg, Bool.false_eq_true, if_false] at this
    omega
  have lp := lim_len np _ hlt
  obtain ⟨K2, h2⟩ := rmul_ev l m hl hm (by omega)
  obtain ⟨K3, h3⟩ := make2_ev (!(b == c)) (lim (val l * val m)) (U_lim np) (by omega)
  rw [val_lim np, nw_of _ np] at h3
  have e : sg (!(b == c)) (val l * val m) = sg b (val l) * sg c (val m) := by cases b <;> cases c <;> simp [sg, Int.mul_neg, Int.neg_mul]
  rw [e] at h3
  refine ⟨K2 + K3, fun k hk => ?_⟩
  simp only [pelorusref02_Two]
  rw [h2 k (by omega), Option.bind_some]
  dsimp only
  rw [h3 k (by omega), Option.bind_some]
/-- Exponents of what may be are small. -/
theorem Rep.small {d : Dd} {S f : Int} {N : Nat} (hr : Rep d S f) (hb : (S.natAbs : Int) < 2 ^ N) (f1 : f ≤ 0) (hN : N ≤ 30000) : d.2.2 ≤ 40000 ∧ d.2.1.length ≤ 1000 := by
  rcases hr.val with ⟨rfl, rfl⟩ | ⟨t, hE, hS, o, o0, o1, ho, hs⟩
  · simp
  · have b1 := mul_le_p t (show 1 ≤ o by omega)
    have b2 := Int.mul_le_mul_of_nonneg_left (show 1 ≤ (2 : Int) ^ t by have := p2_pos t; omega) (show 0 ≤ o by omega)
    have ht := p2_lt (show (2 : Int) ^ t < 2 ^ N by omega)
    have hl := len_lim (v := o) (by omega) N (by omega)
    rw [ho]
    omega
theorem rmul_z {n n' : Bool} {l l' : List Int} {e e' f g S T : Int} {N M : Nat} (h : Z n l e f S N) (h' : Z n' l' e' g T M) (hN : N + M ≤ 30000) (f0 : -400000 ≤ f) (f1 : f ≤ 0) (g0 : -400000 ≤ g) (g1 : g ≤ 0) :
    ∃ d, Rep d (S * T) (f + g) ∧ ∃ K, ∀ k, K ≤ k → pelorusref03_Mul k ((n, l), e) ((n', l'), e') = some (dd d, ()) := by
  obtain ⟨p, hp, K1, h1⟩ := rmk_z h (by omega)
  obtain ⟨q, hq, K2, h2⟩ := rmk_z h' (by omega)
  have zp := Z.of_rep hp h.bd (by omega) (by omega) f1
  have zq := Z.of_rep hq h'.bd (by omega) (by omega) g1
  have lp := zp.len
  have lq := zq.len
  have p0 := zp.lo
  have q0 := zq.lo
  have ⟨ep, lp2⟩ := hp.small h.bd f1 (by omega)
  have ⟨eq_, lq2⟩ := hq.small h'.bd g1 (by omega)
  obtain ⟨K3, h3⟩ := rmul2_ev p.1 q.1 p.2.1 q.2.1 zp.u zq.u (by omega) (by omega)
  have eST : S * T = sg p.1 (val p.2.1) * sg q.1 (val q.2.1) * 2 ^ (p.2.2 + q.2.2 - (f + g)).toNat := by
    have a1 := zp.eq
    have a2 := zq.eq
    rw [show (p.2.2 + q.2.2 - (f + g)).toNat = (p.2.2 - f).toNat + (q.2.2 - g).toNat by omega, p2_add]
    rw [a1, a2]
    generalize sg p.1 (val p.2.1) = x
    generalize sg q.1 (val q.2.1) = y
    generalize (2 : Int) ^ (p.2.2 - f).toNat = u
    generalize (2 : Int) ^ (q.2.2 - g).toNat = v
    rw [Int.mul_assoc, Int.mul_left_comm u y v, ← Int.mul_assoc]
  have bST := abs_mul_lt h.bd h'.bd
  have zr : Z (nw (sg p.1 (val p.2.1) * sg q.1 (val q.2.1))).1 (nw (sg p.1 (val p.2.1) * sg q.1 (val q.2.1))).2 (p.2.2 + q.2.2) (f + g) (S * T) (N + M) := by
    rw [eST]
    exact Z.nw (by omega) (by omega) (by omega) (by rw [← eST]; exact bST)
  obtain ⟨d, hd, K4, h4⟩ := rmk_z zr (by omega)
  refine ⟨d, hd, K1 + K2 + K3 + K4, fun k hk => ?_⟩
  simp only [pelorusref03_Mul]
  rw [h1 k (by omega), Option.bind_some, h2 k (by omega), Option.bind_some]
  simp only [dd]
  rw [h3 k (by omega), Option.bind_some, w64 (by omega) (by omega)]
  erw [h4 k (by omega)]
  rfl
/-! ### the document's quotient, floor; the law DySums -/
theorem add2_nw (s t : Int) (n : Nat) (hn : n ≤ 2300000) (hs : (s.natAbs : Int) < 2 ^ n) (ht : (t.natAbs : Int) < 2 ^ n) :
    ∃ neg, (∃ K, ∀ k, K ≤ k → pelorusref02_Add k (nw s) (nw t) = some ((neg, lim (s + t).natAbs), ())) ∧ (s + t ≠ 0 → neg = decide (s + t < 0)) := by
  obtain ⟨neg, h1, h2⟩ := add2_ev (decide (s < 0)) (decide (t < 0)) (x := (s.natAbs : Int)) (y := (t.natAbs : Int)) (by omega) (by omega) n hn hs ht
  rw [sg_of, sg_of] at h1 h2
  exact ⟨neg, h1, h2⟩
theorem nw_pos {D : Int} (h : 0 ≤ D) : (false, lim D) = nw D := by
  have := nw_of false h
  simpa [sg] using this
theorem from_neg1 : ∃ K, ∀ k, K ≤ k → pelorusref02_From k (-1) = some (nw (-1), ()) := by
  obtain ⟨K, hK⟩ := make2_ev true [1, 0] (by simp [U]) (by simp)
  have e : ∀ k, pelorusref02_From k (-1) = (pelorusref02_Make k true [1, 0]).bind fun r1 => some (r1.1, ()) := fun k => rfl
  refine ⟨K, fun k hk => ?_⟩
  rw [e, hK k hk, Option.bind_some, nw_of true (by decide)]
  have v : val [1, 0] = 1 := by decide
  rw [v]; rfl
theorem rdivw_ev (n : Bool) (l : List Int) (h : U l) (hl : l.length ≤ 3000) {D : Int} (hD : 0 < D) (M : Nat) (hM : M ≤ 1200000) (hM1 : 100000 ≤ M) (hLD : D < 2 ^ M) : ∃ K, ∀ k, K ≤ k → ∃ y z, pelorusref02_Div k (n, l) (false, lim D) = some (nw (sg n (val l) / D), y, z, ()) := by
  have hv := val_nonneg h
  have lD := len_lim (v := D) (by omega) M hLD
  have vD := val_lim (n := D) (by omega)
  have uD := U_lim (n := D) (by omega)
  have lv := val_lt h
  have lv2 := pw_mono hl
  rw [p2_limb 3000] at lv2
  have q0 : 0 ≤ val l / D := Int.ediv_nonneg hv (by omega)
  have q1 : val l / D ≤ val l := Int.ediv_le_self _ hv
  have r0 := Int.emod_nonneg (val l) (show D ≠ 0 by omega)
  have r1 := Int.emod_lt_of_pos (val l) hD
  have m1 := p2_mono (show 32 * 3000 ≤ M by omega)
  have lq := len_lim q0 M (by omega)
  have lr := len_lim r0 M (by omega)
  obtain ⟨K1, h1⟩ := rsign_ev false (lim D) uD (by omega)
  rw [vD, show sg false D = D from rfl, sgz_pos hD] at h1
  obtain ⟨K2, h2⟩ := rdiv_ev l (lim D) h uD (by omega) (by omega) (by omega)
  rw [vD] at h2
  obtain ⟨K3, h3⟩ := make2_ev (!(n == false)) (lim (val l / D)) (U_lim q0) (by omega)
  have hnf : (!(n == false)) = n := by cases n <;> rfl
  rw [val_lim q0, nw_of _ q0, hnf] at h3
  obtain ⟨K4, h4⟩ := make2_ev n (lim (val l % D)) (U_lim r0) (by omega)
  rw [val_lim r0, nw_of _ r0] at h4
  have ar : ((sg n (val l % D)).natAbs : Int) = val l % D := sg_abs n r0
  have aq : ((sg n (val l / D)).natAbs : Int) = val l / D := sg_abs n q0
  obtain ⟨K5, h5⟩ := rsign_ev (nw (sg n (val l % D))).1 (nw (sg n (val l % D))).2 (nw_U _) (by show (lim _).length ≤ _; rw [ar]; omega)
  rw [nw_sg] at h5
  have w : IntKind.i64.wrap (0 - 1) = -1 := by decide
  have hd := Int.mul_ediv_add_emod (val l) D
  by_cases hc : n = true ∧ val l % D ≠ 0
  · obtain ⟨hn, hr⟩ := hc
    have s5 : sgz (sg n (val l % D)) = -1 := by
      rw [hn]; exact sgz_neg (by unfold sg; rw [if_pos rfl]; omega)
    rw [s5] at h5
    obtain ⟨K6, h6⟩ := from_neg1
    have m2 : (1 : Int) < 2 ^ M := Int.lt_of_lt_of_le (show (1 : Int) < 2 ^ 1 by decide) (p2_mono (by omega))
    obtain ⟨neg, ⟨K7, h7⟩, g7⟩ := add2_nw (sg n (val l / D)) (-1) M (by omega) (by omega) (by show (1 : Int) < _; exact m2)
    obtain ⟨neg', ⟨K8, h8⟩, _⟩ := add2_nw (sg n (val l % D)) D M (by omega) (by omega) (by omega)
    have e : sg n (val l / D) + -1 = sg n (val l) / D := by
      rw [hn]
      unfold sg
      rw [if_pos rfl, if_pos rfl]
      have := (div_unique (v := -val l) (D := D) (Q := -(val l / D) + -1) (R := D - val l % D) (by rw [Int.mul_add, Int.mul_neg, Int.mul_neg, Int.mul_one]; omega) (by omega) (by omega)).1
      omega
    have ne : sg n (val l / D) + -1 ≠ 0 := by
      rw [hn]; unfold sg; rw [if_pos rfl]; omega
    have f7 : (neg, lim (sg n (val l / D) + -1).natAbs) = nw (sg n (val l) / D) := by
      rw [g7 ne, e]; rfl
    refine ⟨K1 + K2 + K3 + K4 + K5 + K6 + K7 + K8, fun k hk => ⟨(neg', lim (sg n (val l % D) + D).natAbs), true, ?_⟩⟩
    simp only [pelorusref02_Div]
    rw [h1 k (by omega), Option.bind_some]
    simp only [beq_f (show ¬ (1 : Int) = 0 by decide), cond_false]
    rw [h2 k (by omega), Option.bind_some]
    dsimp only
    rw [hnf, h3 k (by omega), Option.bind_some, h4 k (by omega), Option.bind_some]
    dsimp only
    erw [h5 k (by omega)]
    rw [Option.bind_some, w]
    simp only [beq_t (show (-1 : Int) = -1 from rfl), cond_true]
    rw [h6 k (by omega), Option.bind_some]
    dsimp only
    rw [h7 k (by omega), Option.bind_some, nw_pos (show 0 ≤ D by omega), h8 k (by omega), Option.bind_some, f7]
  · have s5 : sgz (sg n (val l % D)) ≠ -1 := by
      rw [sgz_sg n r0]
      split
      · decide
      · rename_i hz
        split
        · rename_i hn; exact absurd ⟨hn, hz⟩ hc
        · decide
    have e : sg n (val l / D) = sg n (val l) / D := by
      unfold sg
      by_cases hn : n = true
      · rw [if_pos hn, if_pos hn]
        have hr : val l % D = 0 := by
          by_cases hr : val l % D = 0
          · exact hr
          · exact absurd ⟨hn, hr⟩ hc
        exact (div_unique (v := -val l) (D := D) (Q := -(val l / D)) (R := 0) (by rw [Int.mul_neg]; omega) (by omega) (by omega)).1.symm
      · rw [if_neg hn, if_neg hn]
    refine ⟨K1 + K2 + K3 + K4 + K5, fun k hk => ⟨nw (sg n (val l % D)), true, ?_⟩⟩
    simp only [pelorusref02_Div]
    rw [h1 k (by omega), Option.bind_some]
    simp only [beq_f (show ¬ (1 : Int) = 0 by decide), cond_false]
    rw [h2 k (by omega), Option.bind_some]
    dsimp only
    rw [hnf, h3 k (by omega), Option.bind_some, h4 k (by omega), Option.bind_some]
    dsimp only
    erw [h5 k (by omega)]
    rw [Option.bind_some, w]
    simp only [beq_f s5, cond_false]
    rw [e]
theorem rfloor_z {n : Bool} {l : List Int} {e f S : Int} {N : Nat} (h : Z n l e f S N) (hN : N ≤ 40000) (f0 : -900000 ≤ f) (f1 : f ≤ 0) :
    ∃ K, ∀ k, K ≤ k → pelorusref03_Floor k ((n, l), e) = some (nw (S / 2 ^ (-f).toNat), ()) := by
  obtain ⟨p, hp, K1, h1⟩ := rmk_z h (by omega)
  rcases hp.val with ⟨rfl, rfl⟩ | ⟨t, hE, hS, o, o0, o1, ho, hs⟩
  · obtain ⟨K2, h2⟩ := rshl_ev [] 0 U_nil (by simp)
    rw [show lim (shlv (val []) 0) = [] from limN_zero] at h2
    obtain ⟨K3, h3⟩ := make2_ev false [] U_nil (by simp)
    refine ⟨K1 + K2 + K3, fun k hk => ?_⟩
    simp only [pelorusref03_Floor]
    rw [h1 k (by omega), Option.bind_some]
    simp only [dd]
    refine (cond_t (show (0 : Int) ≥ 0 by decide) _ _).trans ?_
    rw [h2 k (by omega), Option.bind_some]
    dsimp only
    rw [h3 k (by omega), Option.bind_some, Int.zero_ediv]
    rfl
  · have bd := h.bd
    have b1 := mul_le_p t (show 1 ≤ o by omega)
    have b2 := Int.mul_le_mul_of_nonneg_left (show 1 ≤ (2 : Int) ^ t by have := p2_pos t; omega) (show 0 ≤ o by omega)
    have ht := p2_lt (show (2 : Int) ^ t < 2 ^ N by omega)
    have hl := len_lim (v := o) (by omega) N (by omega)
    have hu := U_lim (n := o) (by omega)
    have hv := val_lim (n := o) (by omega)
    rw [ho, hv] at hS
    by_cases hc : p.2.2 ≥ 0
    · obtain ⟨j, hj⟩ : ∃ j : Nat, p.2.2 = j := ⟨p.2.2.toNat, by omega⟩
      obtain ⟨K2, h2⟩ := rshl_ev (lim o) j hu (by omega)
      rw [hv, shlv_eq (by omega) (by omega), Int.toNat_natCast] at h2
      have v0 : 0 < o * 2 ^ j := Int.mul_pos o0 (p2_pos j)
      have lj := len_lim (v := o * 2 ^ j) (by omega) N (by
        have h3 : o * 2 ^ t = o * 2 ^ j * 2 ^ (-f).toNat := by rw [Int.mul_assoc, ← p2_add, show j + (-f).toNat = t by omega]
        have h4 := Int.mul_le_mul_of_nonneg_left (show 1 ≤ (2 : Int) ^ (-f).toNat by have := p2_pos (-f).toNat; omega) (show 0 ≤ o * 2 ^ j by omega)
        omega)
      obtain ⟨K3, h3⟩ := make2_ev p.1 (lim (o * 2 ^ j)) (U_lim (by omega)) (by omega)
      rw [val_lim (by omega), nw_of _ (by omega)] at h3
      have e : S / 2 ^ (-f).toNat = sg p.1 (o * 2 ^ j) := by
        rw [hS, show t = j + (-f).toNat by omega, p2_add, ← Int.mul_assoc, Int.mul_ediv_cancel _ (by have := p2_pos (-f).toNat; omega), sg_mulp]
      refine ⟨K1 + K2 + K3, fun k hk => ?_⟩
      simp only [pelorusref03_Floor]
      rw [h1 k (by omega), Option.bind_some]
      simp only [dd]
      refine (cond_t hc _ _).trans ?_
      rw [ho, hj, h2 k (by omega), Option.bind_some]
      dsimp only
      rw [h3 k (by omega), Option.bind_some, e]
    · obtain ⟨j, hj⟩ : ∃ j : Nat, p.2.2 = -((j + 1 : Nat) : Int) := ⟨(-p.2.2 - 1).toNat, by omega⟩
      have pj := p2_pos (j + 1)
      obtain ⟨K2, h2⟩ := rshl_ev [1] ((j + 1 : Nat) : Int) (by simp [U]) (by simp)
      rw [show val [1] = 1 by decide, shlv_eq (by omega) (by omega), Int.toNat_natCast, Int.one_mul] at h2
      have pj2 : (2 : Int) ^ (j + 1) < 2 ^ (j + 1 + 1) := by rw [p2_succ (j + 1)]; omega
      have l1 := len_lim (v := 2 ^ (j + 1)) (by omega) (j + 1 + 1) pj2
      obtain ⟨K3, h3⟩ := make2_ev false (lim (2 ^ (j + 1))) (U_lim (by omega)) (by omega)
      rw [Bool.false_and, val_lim (by omega)] at h3
      obtain ⟨K4, h4⟩ := rdivw_ev p.1 (lim o) hu (by omega) pj (j + 100002) (by omega) (by omega) (Int.lt_of_lt_of_le pj2 (p2_mono (by omega)))
      rw [hv] at h4
      have ef : (-f).toNat = (j + 1) + t := by omega
      have e0 : S / 2 ^ (-f).toNat = sg p.1 o / 2 ^ (j + 1) := by
        rw [hS, ef, p2_add, Int.mul_ediv_mul_of_pos_left _ _ (p2_pos t)]
      refine ⟨K1 + K2 + K3 + K4, fun k hk => ?_⟩
      obtain ⟨y, z, h5⟩ := h4 k (by omega)
      simp only [pelorusref03_Floor]
      rw [h1 k (by omega), Option.bind_some]
      simp only [dd]
      refine (cond_f hc _ _).trans ?_
      rw [show IntKind.i64.wrap (0 - p.2.2) = ((j + 1 : Nat) : Int) by rw [hj, w64 (by omega) (by omega)]; omega, h2 k (by omega), Option.bind_some]
      dsimp only
      rw [h3 k (by omega), Option.bind_some]
      dsimp only
      rw [ho, h5, Option.bind_some, e0]
theorem rsame_l0 (k : Nat) (l : List Int) (hl : l.length ≤ 1073741824) : ∀ (n m i : Nat), i + n = l.length → n < m → pelorusref01_Same_l0 k m ((l, l, (i : Int), ()), ()) = some (Sum.inr (Sum.inl ((), ()))) := by
  intro n
  induction n with
  | zero =>
    intro m i hi hm
    obtain ⟨m, rfl⟩ : ∃ q, m = q + 1 := ⟨m - 1, by omega⟩
    have e : ¬ (i : Int) < (l.length : Int) := by omega
    simp only [pelorusref01_Same_l0, cond_f e]
  | succ n ih =>
    intro m i hi hm
    obtain ⟨m, rfl⟩ : ∃ q, m = q + 1 := ⟨m - 1, by omega⟩
    have e : (i : Int) < (l.length : Int) := by omega
    simp only [pelorusref01_Same_l0, cond_t e, if_pos (Int.natCast_nonneg i), Int.toNat_natCast, gd (show i < l.length by omega), Option.bind_some, bne_self_eq_false, cond_false, wsu (show i < 4611686018427387904 by omega)]
    exact ih m (i + 1) (by omega) (by omega)
theorem alikew_ev (w : Bool × List Int) (hl : w.2.length ≤ 1073741824) (k : Nat) (hk : w.2.length < k) : pelorusref02_Alike k w w = some (true, ()) := by
  have h := rsame_l0 k w.2 hl w.2.length k 0 (by omega) hk
  rw [show ((0 : Nat) : Int) = 0 from rfl] at h
  simp only [pelorusref02_Alike, pelorusref01_Same, bne_self_eq_false, cond_false]
  erw [h]
  simp
theorem alike_ev (d : DyR) (hl : d.1.2.length ≤ 1073741824) (k : Nat) (hk : d.1.2.length < k) : pelorusref03_Alike k d d = some (true, ()) := by
  simp only [pelorusref03_Alike]
  rw [alikew_ev d.1 hl k hk, Option.bind_some]
  simp
theorem alike_rep {d d' : Dd} {S f : Int} {N : Nat} (h : Rep d S f) (h' : Rep d' S f) (hb : (S.natAbs : Int) < 2 ^ N) (hN : N ≤ 60000) (f0 : -1000000 ≤ f) (f1 : f ≤ 0) (k : Nat) (hk : 2000 < k) : pelorusref03_Alike k (dd d) (dd d') = some (true, ()) := by
  obtain rfl := h.un h'
  have := (Z.of_rep h hb hN f0 f1).len
  refine alike_ev (dd d) ?_ k ?_
  · show d.2.1.length ≤ _; omega
  · show d.2.1.length < _; omega
theorem law_loop (k : Nat) (a b : DyR) (l : List DyR) (hl : l.length ≤ 6) : ∀ (n m i : Nat), i + n = l.length → n < m →
    peloruslaw03_DySums_l0 k m ((l, (), (), (i : Int), ()), (a, b, ())) = some (Sum.inl ((true, ()), ())) ∨
    (peloruslaw03_DySums_l0 k m ((l, (), (), (i : Int), ()), (a, b, ())) = some (Sum.inr (Sum.inl ((l, (), (), ()), (a, b, ())))) ∧ ∀ x ∈ l.drop i, x.1.2.length ≤ 20 ∧ -1000 ≤ x.2 ∧ x.2 ≤ 1000) := by
  intro n
  induction n with
  | zero =>
    intro m i hi hm
    obtain ⟨m, rfl⟩ : ∃ q, m = q + 1 := ⟨m - 1, by omega⟩
    have e : ¬ (i : Int) < (l.length : Int) := by omega
    right
    refine ⟨by simp only [peloruslaw03_DySums_l0, cond_f e], fun x hx => ?_⟩
    rw [List.drop_of_length_le (by omega)] at hx
    cases hx
  | succ n ih =>
    intro m i hi hm
    obtain ⟨m, rfl⟩ : ∃ q, m = q + 1 := ⟨m - 1, by omega⟩
    have e : (i : Int) < (l.length : Int) := by omega
    have hli : i < l.length := by omega
    have hg : l[i]? = some l[i] := List.getElem?_eq_getElem hli
    have fe := few_eq k l[i].1.1 l[i].1.2 l[i].2
    simp only [peloruslaw03_DySums_l0, cond_t e, if_pos (Int.natCast_nonneg i), Int.toNat_natCast, hg, Option.bind_some, wsu (show i < 4611686018427387904 by omega)]
    erw [fe]
    rw [Option.bind_some]
    by_cases hf : l[i].1.2.length ≤ 20 ∧ -1000 ≤ l[i].2 ∧ l[i].2 ≤ 1000
    · simp only [decide_eq_true hf, Bool.not_true, cond_false]
      rcases ih m (i + 1) (by omega) (by omega) with h | ⟨h, hh⟩
      · exact .inl h
      · refine .inr ⟨h, fun x hx => ?_⟩
        rw [List.drop_eq_getElem_cons hli] at hx
        rcases List.mem_cons.1 hx with rfl | hx
        · exact hf
        · exact hh x hx
    · simp only [decide_eq_false hf, Bool.not_false, cond_true]
      first | exact .inl rfl | exact .inl trivial
theorem awake_k (j : Nat) : peloruslaw03_awake (j + 200) = some (true, ()) := by kernel_rfl
theorem awake_all (k : Nat) (hk : 200 ≤ k) : peloruslaw03_awake k = some (true, ()) := by
  obtain ⟨j, rfl⟩ : ∃ j, k = j + 200 := ⟨k - 200, by omega⟩
  exact awake_k j
theorem abs_sum (N : Nat) (v : DyR → Int) : ∀ l : List DyR, (∀ x ∈ l, ((v x).natAbs : Int) < 2 ^ N) → (((l.map v).sum.natAbs : Nat) : Int) < 2 ^ (N + l.length)
  | [], _ => by have := p2_pos N; simpa using this
  | x :: l, h => by
    rw [List.map_cons, List.sum_cons]
    exact abs_add_lt (abs_mono (h x (by simp)) (Nat.le_add_right _ _)) (abs_sum N v l fun y hy => h y (by simp [hy]))
theorem abs_quot {S : Int} {N M : Nat} (h : (S.natAbs : Int) < 2 ^ N) : ((S / 2 ^ M).natAbs : Int) < 2 ^ (N + 1) := by
  have pD := p2_pos M
  have pN := p2_pos N
  have h1 := Int.mul_le_mul_of_nonneg_left (show 1 ≤ (2 : Int) ^ M by omega) (show 0 ≤ (2 : Int) ^ N by omega)
  have q1 : S / 2 ^ M < 2 ^ N := Int.ediv_lt_of_lt_mul pD (by omega)
  have q0 : -2 ^ N ≤ S / 2 ^ M := Int.le_ediv_of_mul_le pD (by rw [Int.neg_mul]; omega)
  have := p2_succ N
  omega
theorem DySums (x0 x1 : DyR) (x2 : List DyR) (u0 : U x0.1.2) (u1 : U x1.1.2) (u2 : ∀ x ∈ x2, U x.1.2) : ∃ k, peloruslaw03_DySums k x0 x1 x2 = some (true, ()) := by
  obtain ⟨⟨n, l⟩, e⟩ := x0
  obtain ⟨⟨n', l'⟩, e'⟩ := x1
  by_cases c0 : l.length ≤ 20 ∧ -1000 ≤ e ∧ e ≤ 1000
  case neg =>
    refine ⟨300, ?_⟩
    simp only [peloruslaw03_DySums, awake_all 300 (by decide), Option.bind_some]
    erw [few_eq 300 n l e]
    rw [Option.bind_some]
    erw [few_eq 300 n' l' e']
    rw [Option.bind_some]
    simp only [Bool.not_true, cond_false, decide_eq_false c0, Bool.not_false, cond_true]
  by_cases c1 : l'.length ≤ 20 ∧ -1000 ≤ e' ∧ e' ≤ 1000
  case neg =>
    refine ⟨300, ?_⟩
    simp only [peloruslaw03_DySums, awake_all 300 (by decide), Option.bind_some]
    erw [few_eq 300 n l e]
    rw [Option.bind_some]
    erw [few_eq 300 n' l' e']
    rw [Option.bind_some]
    simp only [Bool.not_true, cond_false, decide_eq_true c0, decide_eq_false c1, Bool.not_false, cond_true]
  by_cases c2 : (x2.length : Int) > 6
  case pos =>
    refine ⟨300, ?_⟩
    simp only [peloruslaw03_DySums, awake_all 300 (by decide), Option.bind_some]
    erw [few_eq 300 n l e]
    rw [Option.bind_some]
    erw [few_eq 300 n' l' e']
    rw [Option.bind_some]
    simp only [Bool.not_true, cond_false, decide_eq_true c0, decide_eq_true c1, cond_t c2]
  by_cases c3 : ∀ x ∈ x2, x.1.2.length ≤ 20 ∧ -1000 ≤ x.2 ∧ x.2 ≤ 1000
  case neg =>
    refine ⟨300, ?_⟩
    rcases law_loop 300 ((n, l), e) ((n', l'), e') x2 (by omega) x2.length 300 0 (by omega) (by omega) with h | ⟨_, h⟩
    · rw [show ((0 : Nat) : Int) = 0 from rfl] at h
      simp only [peloruslaw03_DySums, awake_all 300 (by decide), Option.bind_some]
      erw [few_eq 300 n l e]
      rw [Option.bind_some]
      erw [few_eq 300 n' l' e']
      rw [Option.bind_some]
      simp only [Bool.not_true, cond_false, decide_eq_true c0, decide_eq_true c1, cond_f c2]
      erw [h]
      rfl
    · exact absurd h (by simpa using c3)
  have z0 := few_z (n := n) u0 c0.1 c0.2.1 c0.2.2
  have z1 := few_z (n := n') u1 c1.1 c1.2.1 c1.2.2
  have z2 : ∀ x ∈ x2, Z x.1.1 x.1.2 x.2 (-1000) (zval (-1000) x) 2640 := fun x hx => (few_z (n := x.1.1) (u2 x hx) (c3 x hx).1 (c3 x hx).2.1 (c3 x hx).2.2).self
  obtain ⟨a, ha, K1, h1⟩ := addn_z x2 (-1000) 2640 (by omega) (by omega) (by omega) (by omega) _ z2
  obtain ⟨a', ha', K2, h2⟩ := raddn_z x2 (-1000) 2640 (by omega) (by omega) (by omega) (by omega) _ z2
  obtain ⟨b, hb, K3, h3⟩ := sub_z z0 z1 (by omega) (by omega) (by omega)
  obtain ⟨b', hb', K4, h4⟩ := rsub_z z0 z1 (by omega) (by omega) (by omega)
  obtain ⟨c, hc, K5, h5⟩ := mul_z z0 z1 (by omega) (by omega) (by omega) (by omega) (by omega)
  obtain ⟨c', hc', K6, h6⟩ := rmul_z z0 z1 (by omega) (by omega) (by omega) (by omega) (by omega)
  obtain ⟨d, hd, K7, h7⟩ := neg_z z0 (by omega) (by omega)
  obtain ⟨d', hd', K8, h8⟩ := rneg_z z0 (by omega) (by omega)
  obtain ⟨K9, h9⟩ := floor_z z0 (by omega) (by omega) (by omega)
  obtain ⟨K10, h10⟩ := rfloor_z z0 (by omega) (by omega) (by omega)
  obtain ⟨K11, h11⟩ := cmp_z z0 z1 (by omega) (by omega) (by omega)
  obtain ⟨K12, h12⟩ := rcmp_z z0 z1 (by omega) (by omega) (by omega)
  have bs := abs_sum 2640 (zval (-1000)) x2 fun x hx => (z2 x hx).bd
  have bd : ((sg n (val l) * 2 ^ (e + 1000).toNat - sg n' (val l') * 2 ^ (e' + 1000).toNat).natAbs : Int) < 2 ^ 2641 := by
    rw [Int.sub_eq_add_neg]; exact abs_add_lt z0.bd (abs_neg z1.bd)
  have bm := abs_mul_lt z0.bd z1.bd
  have bq := abs_quot (M := (- -1000 : Int).toNat) z0.bd
  have lq := len_lim (by omega) _ bq
  obtain ⟨k, hk⟩ : ∃ k, k = K1 + K2 + K3 + K4 + K5 + K6 + K7 + K8 + K9 + K10 + K11 + K12 + 3000 := ⟨_, rfl⟩
  refine ⟨k, ?_⟩
  have a1 := alike_rep ha ha' bs (by omega) (by omega) (by omega) k (by omega)
  have a2 := alike_rep hb hb' bd (by omega) (by omega) (by omega) k (by omega)
  have a3 := alike_rep hc hc' bm (by omega) (by omega) (by omega) k (by omega)
  have a4 := alike_rep hd hd' (abs_neg z0.bd) (by omega) (by omega) (by omega) k (by omega)
  have a5 := alikew_ev (nw (sg n (val l) * 2 ^ (e + 1000).toNat / 2 ^ (- -1000 : Int).toNat)) (Nat.le_trans lq (by decide)) k (Nat.lt_of_le_of_lt lq (by omega))
  rcases law_loop k ((n, l), e) ((n', l'), e') x2 (by omega) x2.length k 0 (by omega) (by omega) with h | ⟨h, _⟩
  · rw [show ((0 : Nat) : Int) = 0 from rfl] at h
    simp only [peloruslaw03_DySums, awake_all k (by omega), Option.bind_some]
    erw [few_eq k n l e]
    rw [Option.bind_some]
    erw [few_eq k n' l' e']
    rw [Option.bind_some]
    simp only [Bool.not_true, cond_false, decide_eq_true c0, decide_eq_true c1, cond_f c2]
    erw [h]
    rfl
  · rw [show ((0 : Nat) : Int) = 0 from rfl] at h
    simp only [peloruslaw03_DySums, awake_all k (by omega), Option.bind_some]
    erw [few_eq k n l e]
    rw [Option.bind_some]
    erw [few_eq k n' l' e']
    rw [Option.bind_some]
    simp only [Bool.not_true, cond_false, decide_eq_true c0, decide_eq_true c1, cond_f c2]
    erw [h]
    simp only [Option.bind_some, Sum.elim_inr, Sum.elim_inl]
    rw [h1 k (by omega), Option.bind_some, h2 k (by omega), Option.bind_some, a1, Option.bind_some, h3 k (by omega), Option.bind_some, h4 k (by omega), Option.bind_some, a2, Option.bind_some, h5 k (by omega), Option.bind_some, h6 k (by omega), Option.bind_some, a3, Option.bind_some, h7 k (by omega), Option.bind_some, h8 k (by omega), Option.bind_some, a4, Option.bind_some, h9 k (by omega), Option.bind_some, h10 k (by omega), Option.bind_some, a5, Option.bind_some]
    simp only [cond_true]
    rw [h11 k (by omega), Option.bind_some, h12 k (by omega), Option.bind_some]
    simp only [beq_self_eq_true]
/-! ### what may be handed in: limbs are of 32 bits -/
theorem okU32 {l : List Int} (h : okU (.list (.int .u32)) l) : U l := by
  intro x hx
  have h1 : (Lit.int .u32 x).wf = true := h.2 x hx
  have h2 := (Lit.wf_int_iff .u32 x).1 h1
  have e : IntKind.max .u32 = 4294967295 := by decide
  have e0 : IntKind.min .u32 = 0 := by decide
  rw [e, e0] at h2
  omega
abbrev TDy : Ty := .pair (.pair .bool (.list (.int .u32))) (.int .i64)
theorem okDy {x : DyR} (h : okU TDy x) : U x.1.2 := okU32 h.1.2
theorem okDys {l : List DyR} (h : okU (.list TDy) l) : ∀ x ∈ l, U x.1.2 := fun x hx => okDy (h.2 x hx)
end Go.Proofs.YtaookeneeemfbaaDoor.Rf.Pl
