/- What is rounded down is not above, what is rounded up not below, and there is no other number between both. Plain. The least and the greatest of some numbers of layer 5, as the code and the document have them. The document's numbers of layer 3, and what it rounds them to. The document's products, half of one, twice as much. What the code's numbers of layer 3 come to: exact ones. The sum, the product, the order, the floor. A number of layer 5, exactly, as a number of layer 3. -/
import Derived.Test.YtkemnoejpbknhaaDoorPAx2
import Derived.Test.YtkemnoejpbknhaaDoorTQ2
namespace Go.Proofs.YtkemnoejpbknhaaDoor.T
set_option linter.unusedVariables false
set_option linter.unusedSimpArgs false
open Go.RowKit Go.Proofs.YtkemnoejpbknhaaDoorW.PrintWords Go.Proofs.YtkemnoejpbknhaaDoorW.PrintMore

/-- Whichever power below both is taken, the order is the same. -/
theorem base_le {x y A B g h : Int} (gA : g ≤ A) (gB : g ≤ B) (hA : h ≤ A) (hB : h ≤ B) (H : x * 2 ^ (A - h).toNat ≤ y * 2 ^ (B - h).toNat) : x * 2 ^ (A - g).toNat ≤ y * 2 ^ (B - g).toNat := by
  by_cases hc : g ≤ h
  · have := mul_le_p (h - g).toNat H
    rw [Int.mul_assoc, Int.mul_assoc, ← p2_add, ← p2_add, show (A - h).toNat + (h - g).toNat = (A - g).toNat by omega, show (B - h).toNat + (h - g).toNat = (B - g).toNat by omega] at this
    exact this
  · refine le_of_p (g - h).toNat ?_
    rw [Int.mul_assoc, Int.mul_assoc, ← p2_add, ← p2_add, show (A - g).toNat + (g - h).toNat = (A - h).toNat by omega, show (B - g).toNat + (g - h).toNat = (B - h).toNat by omega]
    exact H
theorem base_lt {x y A B g h : Int} (gA : g ≤ A) (gB : g ≤ B) (hA : h ≤ A) (hB : h ≤ B) (H : x * 2 ^ (A - h).toNat < y * 2 ^ (B - h).toNat) : x * 2 ^ (A - g).toNat < y * 2 ^ (B - g).toNat := by
  apply Int.lt_of_not_ge
  intro h2
  have := base_le hB hA gB gA h2
  omega
/-- A number above nought, rounded to either side. -/
theorem rnd_tight {v e g : Int} (hv : 0 < v) (e0 : -500000 ≤ e) (e1 : e + bl v ≤ 500000) (hg : g ≤ e - 64) : ∃ q E q' E' : Int,
    (∀ neg, rnd neg v e false = (1, neg, q, E)) ∧ (∀ neg, rnd neg v e true = (1, neg, q', E')) ∧
    9223372036854775808 ≤ q ∧ q < 18446744073709551616 ∧ 9223372036854775808 ≤ q' ∧ q' < 18446744073709551616 ∧ g ≤ E ∧ g ≤ E' ∧ E ≤ e + bl v ∧ E' ≤ e + bl v ∧ -600000 ≤ E ∧ -600000 ≤ E' ∧
    ((q = q' ∧ E = E' ∧ q * 2 ^ (E - g).toNat = v * 2 ^ (e - g).toNat) ∨
     (q * 2 ^ (E - g).toNat < v * 2 ^ (e - g).toNat ∧ v * 2 ^ (e - g).toNat < q' * 2 ^ (E' - g).toNat ∧ ∀ n, mg (1, n, q', E') = mg (1, n, q, E) + 1)) := by
  obtain ⟨q, E, c, h⟩ := fit_ex e hv
  have hf := fun neg away => rnd_fit h neg away
  obtain ⟨q0, q1, s, t, he, h1, h2, hc⟩ := h
  have hb := bl_in q0 q1 h1 h2
  rw [blp hv] at hb
  have bp := bl_pos hv
  have es : s = (e - (e - s)).toNat := by omega
  have et : t = (E - (e - s)).toNat := by omega
  have L1 : q * 2 ^ (E - g).toNat ≤ v * 2 ^ (e - g).toNat := base_le (h := e - s) (by omega) (by omega) (by omega) (by omega) (by rw [← es, ← et]; exact h1)
  have L2 : v * 2 ^ (e - g).toNat < (q + 1) * 2 ^ (E - g).toNat := base_lt (h := e - s) (by omega) (by omega) (by omega) (by omega) (by rw [← es, ← et]; exact h2)
  by_cases hcc : c = true
  · have hne := hc.1 hcc
    have L3 : q * 2 ^ (E - g).toNat < v * 2 ^ (e - g).toNat := base_lt (h := e - s) (by omega) (by omega) (by omega) (by omega) (by rw [← es, ← et]; omega)
    by_cases ho : q + 1 = 18446744073709551616
    · refine ⟨q, E, 9223372036854775808, E + 1, fun neg => ?_, fun neg => ?_, q0, q1, by omega, by omega, by omega, by omega, by omega, by omega, by omega, by omega, .inr ⟨L3, ?_, fun n => ?_⟩⟩
      · rw [hf, grw, if_neg (by simp), bnd_in (by omega) (by omega)]
      · rw [hf, grw, if_pos ⟨hcc, rfl⟩, if_pos ho, bnd_in (by omega) (by omega)]
      · rw [ho, show (18446744073709551616 : Int) = 9223372036854775808 * 2 by decide, Int.mul_assoc, ← p2_succ, show (E - g).toNat + 1 = (E + 1 - g).toNat by omega] at L2
        exact L2
      · unfold mg
        simp only
        rw [if_neg (by decide), if_neg (by decide), if_neg (by decide), if_neg (by decide)]
        omega
    · refine ⟨q, E, q + 1, E, fun neg => ?_, fun neg => ?_, q0, q1, by omega, by omega, by omega, by omega, by omega, by omega, by omega, by omega, .inr ⟨L3, L2, fun n => ?_⟩⟩
      · rw [hf, grw, if_neg (by simp), bnd_in (by omega) (by omega)]
      · rw [hf, grw, if_pos ⟨hcc, rfl⟩, if_neg ho, bnd_in (by omega) (by omega)]
      · unfold mg
        simp only
        rw [if_neg (by decide), if_neg (by decide), if_neg (by decide), if_neg (by decide)]
        omega
  · have heq : q * 2 ^ t = v * 2 ^ s := by
      apply Classical.byContradiction
      intro h3
      exact hcc (hc.2 h3)
    refine ⟨q, E, q, E, fun neg => ?_, fun neg => ?_, q0, q1, q0, q1, by omega, by omega, by omega, by omega, by omega, by omega, .inl ⟨rfl, rfl, ?_⟩⟩
    · rw [hf, grw, if_neg (fun x => hcc x.1), bnd_in (by omega) (by omega)]
    · rw [hf, grw, if_neg (fun x => hcc x.1), bnd_in (by omega) (by omega)]
    · have L4 : v * 2 ^ (e - g).toNat ≤ q * 2 ^ (E - g).toNat := base_le (h := e - s) (by omega) (by omega) (by omega) (by omega) (by rw [← es, ← et]; omega)
      omega
theorem sg_mulq (n : Bool) (x : Int) (j : Nat) : sg n x * 2 ^ j = sg n (x * 2 ^ j) := by
  unfold sg; split
  · rw [Int.neg_mul]
  · rfl
/-- An exact number, rounded to either side: both are finite, and hold it between them; where they are not one, the upper one is the next one. -/
theorem rnz_tight {S f g X : Int} (f0 : -500000 ≤ f) (f1 : f + bl S.natAbs ≤ X) (X0 : 0 ≤ X) (X1 : X ≤ 500000) (hg : g ≤ f - 64) (hg0 : g ≤ 0) :
    (rnz S f false).1 ≠ 2 ∧ (rnz S f true).1 ≠ 2 ∧ g ≤ (rnz S f false).2.2.2 ∧ g ≤ (rnz S f true).2.2.2 ∧ (rnz S f false).2.2.2 ≤ X ∧ (rnz S f true).2.2.2 ≤ X ∧
    ((rnz S f false = rnz S f true ∧ sv (rnz S f false) * 2 ^ ((rnz S f false).2.2.2 - g).toNat = S * 2 ^ (f - g).toNat) ∨
     (sv (rnz S f false) * 2 ^ ((rnz S f false).2.2.2 - g).toNat < S * 2 ^ (f - g).toNat ∧ S * 2 ^ (f - g).toNat < sv (rnz S f true) * 2 ^ ((rnz S f true).2.2.2 - g).toNat ∧ kv (rnz S f true) = kv (rnz S f false) + 1)) := by
  by_cases hz : S = 0
  · subst hz
    have e : ∀ up, rnz 0 f up = (0, false, 0, 0) := fun up => by unfold rnz; rw [if_pos rfl]
    simp only [e]
    refine ⟨by decide, by decide, hg0, hg0, X0, X0, .inl ⟨?_, ?_⟩⟩
    · first | trivial | rfl
    · unfold sv
      rw [if_neg (by decide), Int.zero_mul, Int.zero_mul]
  · have va : 0 < (S.natAbs : Int) := by omega
    obtain ⟨q, E, q', E', r1, r2, q0, q1, q0', q1', gE, gE', E1, E1', E0, E0', hcase⟩ := rnd_tight (g := g) va f0 (by omega) hg
    have e : ∀ up, rnz S f up = rnd (decide (S < 0)) S.natAbs f (up != decide (S < 0)) := fun up => by unfold rnz; rw [if_neg hz]
    have svd : ∀ n q E, sv (1, n, q, E) = sg n q := fun n q E => by unfold sv; rw [if_pos rfl]
    by_cases hn : S < 0
    · have hS : S = -(S.natAbs : Int) := by omega
      have e1 : rnz S f false = (1, true, q', E') := by rw [e, decide_eq_true hn]; exact r2 true
      have e2 : rnz S f true = (1, true, q, E) := by rw [e, decide_eq_true hn]; exact r1 true
      rw [e1, e2, svd, svd]
      refine ⟨by simp, by simp, gE', gE, by simp only; omega, by simp only; omega, ?_⟩
      have k1 : ∀ q E, kv (1, true, q, E) = -mg (1, true, q, E) := fun q E => by unfold kv sg; rw [if_pos rfl]
      simp only [sg, if_true, Int.neg_mul]
      rw [k1, k1]
      rcases hcase with ⟨rfl, rfl, h⟩ | ⟨h1, h2, h3⟩
      · refine .inl ⟨rfl, ?_⟩
        rw [h]
        conv => rhs; rw [hS]
        rw [Int.neg_mul]
      · have h3 := h3 true
        refine .inr ⟨?_, ?_, by omega⟩
        · conv => rhs; rw [hS]
          rw [Int.neg_mul]; omega
        · conv => lhs; rw [hS]
          rw [Int.neg_mul]; omega
    · have hS : (S.natAbs : Int) = S := by omega
      have e1 : rnz S f false = (1, false, q, E) := by rw [e, decide_eq_false hn]; exact r1 false
      have e2 : rnz S f true = (1, false, q', E') := by rw [e, decide_eq_false hn]; exact r2 false
      rw [e1, e2, svd, svd]
      refine ⟨by simp, by simp, gE, gE', by simp only; omega, by simp only; omega, ?_⟩
      have k1 : ∀ q E, kv (1, false, q, E) = mg (1, false, q, E) := fun q E => by unfold kv sg; rw [if_neg (by simp)]
      simp only [sg, Bool.false_eq_true, if_false]
      rw [k1, k1]
      rw [hS] at hcase
      rcases hcase with ⟨rfl, rfl, h⟩ | ⟨h1, h2, h3⟩
      · exact .inl ⟨rfl, h⟩
      · exact .inr ⟨h1, h2, h3 false⟩
end Go.Proofs.YtkemnoejpbknhaaDoor.T

namespace Go.Proofs.YtkemnoejpbknhaaDoor.T
set_option linter.unusedVariables false
set_option linter.unusedSimpArgs false
open Go.RowKit Go.Proofs.YtkemnoejpbknhaaDoorW.PrintWords Go.Proofs.YtkemnoejpbknhaaDoorW.PrintMore Go.Proofs.YtkemnoejpbknhaaDoor.PA

def s30 (p : Nm) : S30 := ⟨p.1, p.2.1, p.2.2.1, p.2.2.2⟩
theorem wf_i64 {x : Int} (h0 : -9223372036854775808 ≤ x) (h1 : x ≤ 9223372036854775807) : (Lit.int .i64 x).wf = true := by
  rw [Lit.wf_int_iff, show IntKind.min .i64 = -9223372036854775808 by decide, show IntKind.max .i64 = 9223372036854775807 by decide]
  exact ⟨h0, h1⟩
theorem wf_u64 {x : Int} (h0 : 0 ≤ x) (h1 : x < 18446744073709551616) : (Lit.int .u64 x).wf = true := by
  rw [Lit.wf_int_iff, show IntKind.min .u64 = 0 by decide, show IntKind.max .u64 = 18446744073709551615 by decide]
  exact ⟨h0, by omega⟩
theorem ok_may {p : Nm} (h : mayP p) : ok30 (s30 p) := by
  unfold ok30 s30
  rcases h with ⟨h1, h2, h3, h4⟩ | ⟨h1, h2, h3, h4, h5⟩ | ⟨h1, h2, h3⟩
  · exact ⟨wf_i64 (by simp only; omega) (by simp only; omega), trivial, wf_u64 (by simp only; omega) (by simp only; omega), wf_i64 (by simp only; omega) (by simp only; omega)⟩
  · exact ⟨wf_i64 (by simp only; omega) (by simp only; omega), trivial, wf_u64 (by simp only; omega) (by simp only; omega), wf_i64 (by simp only; omega) (by simp only; omega)⟩
  · exact ⟨wf_i64 (by simp only; omega) (by simp only; omega), trivial, wf_u64 (by simp only; omega) (by simp only; omega), wf_i64 (by simp only; omega) (by simp only; omega)⟩
theorem nm_s30 {p : Nm} (h : mayP p) : nm (s30 p) = p := fairv_of h
theorem cmp_sn {x : S30} {p : Nm} (hx : ok30 x) (hp : mayP p) : num_Cmp.f x.f0 x.f1 x.f2 x.f3 p.1 p.2.1 p.2.2.1 p.2.2.2 = some (sgn (kv (nm x) - kv p)) := by
  have := cmp_ss hx (ok_may hp)
  rw [nm_s30 hp] at this
  exact this
theorem cmp_ns {x : S30} {p : Nm} (hp : mayP p) (hx : ok30 x) : num_Cmp.f p.1 p.2.1 p.2.2.1 p.2.2.2 x.f0 x.f1 x.f2 x.f3 = some (sgn (kv p - kv (nm x))) := by
  have := cmp_ss (ok_may hp) hx
  rw [nm_s30 hp] at this
  exact this
theorem fair_s {x : S30} (hx : ok30 x) : num_fair.f x.f0 x.f1 x.f2 x.f3 = some (nm x) := nfair_eq _ _ _ _ (m_lt hx.2.2.1)
theorem rfair_s {x : S30} (hx : ok30 x) : pelorusref05_fair.f x.f0 x.f1 x.f2 x.f3 = some (nm x) := fair5_eq _ _ _ _ (m_lt hx.2.2.1)
theorem sgn_lt0 {x : Int} : sgn x < 0 ↔ x < 0 := by
  rcases Int.lt_trichotomy x 0 with h | h | h
  · rw [sgn_neg h]; simp [h]
  · subst h; simp [sgn_zero]
  · rw [sgn_pos h]; omega
theorem sgn_gt0 {x : Int} : 0 < sgn x ↔ 0 < x := by
  rcases Int.lt_trichotomy x 0 with h | h | h
  · rw [sgn_neg h]; omega
  · subst h; simp [sgn_zero]
  · rw [sgn_pos h]; simp [h]
theorem rsign_g {p : Nm} (h : mayP p) : pelorusref05_Sign.f p.1 p.2.1 p.2.2.1 p.2.2.2 = some (sgn (kv p)) := by
  unfold pelorusref05_Sign.f
  rw [fair5_eq _ _ _ _ (may_lt h), Option.bind_some, show fairv (p.1, p.2.1, p.2.2.1, p.2.2.2) = p from fairv_of h]
  unfold kv sg
  rcases mg_val h with ⟨a1, a2, a3, a4, a5⟩ | ⟨a1, a2, a3, a4, a5, a6⟩ | ⟨a1, a2, a3, a4⟩
  · rw [if_pos a1, a5]; simp [sgn_zero]
  · rw [if_neg (by omega)]
    cases p.2.1
    · rw [if_neg (by decide), if_neg (by decide), sgn_pos (by omega)]
    · rw [if_pos rfl, if_pos rfl, sgn_neg (by omega)]
  · rw [if_neg (by omega)]
    cases p.2.1
    · rw [if_neg (by decide), if_neg (by decide), sgn_pos (by omega)]
    · rw [if_pos rfl, if_pos rfl, sgn_neg (by omega)]
theorem rcmp_g {a b : Nm} (ha : mayP a) (hb : mayP b) (k : Nat) (hk : 1 ≤ k) : pelorusref05_Cmp.f k a.1 a.2.1 a.2.2.1 a.2.2.2 b.1 b.2.1 b.2.2.1 b.2.2.2 = some (sgn (kv a - kv b)) := by
  obtain ⟨k, rfl⟩ : ∃ m, k = m + 1 := ⟨k - 1, by omega⟩
  unfold pelorusref05_Cmp.f
  rw [fair5_eq _ _ _ _ (may_lt ha), Option.bind_some, fair5_eq _ _ _ _ (may_lt hb), Option.bind_some, show fairv (a.1, a.2.1, a.2.2.1, a.2.2.2) = a from fairv_of ha, show fairv (b.1, b.2.1, b.2.2.1, b.2.2.2) = b from fairv_of hb,
    rsign_g ha, Option.bind_some, rsign_g hb, Option.bind_some]
  by_cases hs : sgn (kv a) = sgn (kv b)
  · rw [if_pos hs]
    by_cases hz : sgn (kv a) = 0
    · rw [if_pos hz]
      have h1 := sgn0_kv.1 hz
      have h2 := sgn0_kv.1 (hs ▸ hz)
      simp only [pelorusref05_Cmp.j0]
      rw [h1, h2]; rfl
    · rw [if_neg hz, nm_beq']
      simp only [pelorusref05_Cmp.j0]
      by_cases he : a = b
      · rw [decide_eq_true he, if_pos rfl, he, Int.sub_self]; rfl
      · rw [decide_eq_false he, if_neg (by decide)]
        have hne : kv a ≠ kv b := fun h => he (kv_inj ha hb h)
        have ma := (mg_bd ha).1
        have mb := (mg_bd hb).1
        -- the sign, told out of the flag
        have key : (sgn (kv a) = 1 ∧ kv a = mg a ∧ kv b = mg b) ∨ (sgn (kv a) = -1 ∧ kv a = -mg a ∧ kv b = -mg b) := by
          have za : kv a ≠ 0 := fun h => hz (by rw [h]; rfl)
          rcases Int.lt_trichotomy (kv a) 0 with h | h | h
          · rw [sgn_neg h] at hs ⊢
            have hb' := sgn_lt0.1 (show sgn (kv b) < 0 by rw [← hs]; decide)
            right
            unfold kv sg at h hb' ⊢
            refine ⟨rfl, ?_, ?_⟩
            · split at h
              · rename_i q; rw [if_pos q]
              · omega
            · split at hb'
              · rename_i q; rw [if_pos q]
              · omega
          · exact absurd h za
          · rw [sgn_pos h] at hs ⊢
            have hb' := sgn_gt0.1 (show 0 < sgn (kv b) by rw [← hs]; decide)
            left
            unfold kv sg at h hb' ⊢
            refine ⟨rfl, ?_, ?_⟩
            · split at h
              · omega
              · rename_i q; rw [if_neg q]
            · split at hb'
              · omega
              · rename_i q; rw [if_neg q]
        have w1 : wrap64 (-sgn (kv a)) = -sgn (kv a) := by rcases key with ⟨k1, _⟩ | ⟨k1, _⟩ <;> rw [k1] <;> exact w64 (by decide) (by decide)
        rw [w1]
        have fin : (mg b < mg a → sgn (kv a - kv b) = sgn (kv a)) ∧ (mg a < mg b → sgn (kv a - kv b) = -sgn (kv a)) := by
          rcases key with ⟨k1, k2, k3⟩ | ⟨k1, k2, k3⟩
          · rw [k1, k2, k3]
            exact ⟨fun h => sgn_pos (by omega), fun h => sgn_neg (by omega)⟩
          · rw [k1, k2, k3]
            exact ⟨fun h => sgn_neg (by omega), fun h => sgn_pos (by omega)⟩
        have mne : mg a ≠ mg b := by
          rcases key with ⟨k1, k2, k3⟩ | ⟨k1, k2, k3⟩ <;> omega
        have nza : mg a ≠ 0 := by
          intro h
          apply hz
          rcases key with ⟨k1, k2, k3⟩ | ⟨k1, k2, k3⟩ <;> rw [k2, h] <;> rfl
        have nzb : mg b ≠ 0 := by
          intro h
          apply hz
          rw [hs]
          rcases key with ⟨k1, k2, k3⟩ | ⟨k1, k2, k3⟩ <;> rw [k3, h] <;> rfl
        rcases mg_val ha with ⟨a1, a2, a3, a4, a5⟩ | ⟨a1, a2, a3, a4, a5, a6⟩ | ⟨a1, a2, a3, a4⟩
        · exact absurd a5 nza
        · rw [if_neg (by omega)]
          rcases mg_val hb with ⟨b1, b2, b3, b4, b5⟩ | ⟨b1, b2, b3, b4, b5, b6⟩ | ⟨b1, b2, b3, b4⟩
          · exact absurd b5 nzb
          · rw [if_neg (by omega)]
            by_cases q : a.2.2.2 > b.2.2.2
            · rw [if_pos q, fin.1 (by omega)]
            · rw [if_neg q]
              by_cases q2 : a.2.2.2 = b.2.2.2
              · rw [if_pos q2]
                by_cases q3 : a.2.2.1 > b.2.2.1
                · rw [if_pos q3, fin.1 (by omega)]
                · rw [if_neg q3, fin.2 (by omega)]
              · rw [if_neg q2, fin.2 (by omega)]
          · rw [if_pos b1, fin.2 (by omega)]
        · rw [if_pos a1]
          rcases mg_val hb with ⟨b1, b2, b3, b4, b5⟩ | ⟨b1, b2, b3, b4, b5, b6⟩ | ⟨b1, b2, b3, b4⟩
          · rw [fin.1 (by omega)]
          · rw [fin.1 (by omega)]
          · exact absurd (a4.trans b4.symm) mne
  · rw [if_neg hs]
    rcases Int.lt_trichotomy (kv a) 0 with h | h | h <;> rcases Int.lt_trichotomy (kv b) 0 with h2 | h2 | h2
    · exact absurd (by rw [sgn_neg h, sgn_neg h2]) hs
    · rw [h2, sgn_neg h, sgn_zero, if_pos (by decide), sgn_neg (by omega)]
    · rw [sgn_neg h, sgn_pos h2, if_pos (by decide), sgn_neg (by omega)]
    · rw [h, sgn_neg h2, sgn_zero, if_neg (by decide), sgn_pos (by omega)]
    · exact absurd (by rw [h, h2]) hs
    · rw [h, sgn_pos h2, sgn_zero, if_pos (by decide), sgn_neg (by omega)]
    · rw [sgn_pos h, sgn_neg h2, if_neg (by decide), sgn_pos (by omega)]
    · rw [h2, sgn_pos h, sgn_zero, if_neg (by decide), sgn_pos (by omega)]
    · exact absurd (by rw [sgn_pos h, sgn_pos h2]) hs
theorem rcmp_ss {x y : S30} (hx : ok30 x) (hy : ok30 y) (k : Nat) (hk : 1 ≤ k) : pelorusref05_Cmp.f k x.f0 x.f1 x.f2 x.f3 y.f0 y.f1 y.f2 y.f3 = some (sgn (kv (nm x) - kv (nm y))) := by
  have := rcmp_g (nm_may x) (nm_may y) k hk
  rw [← this]
  unfold pelorusref05_Cmp.f
  rw [rfair_s hx, rfair_s hy, fair5_eq _ _ _ _ (may_lt (nm_may x)), fair5_eq _ _ _ _ (may_lt (nm_may y))]
  rw [show fairv ((nm x).1, (nm x).2.1, (nm x).2.2.1, (nm x).2.2.2) = nm x from fairv_of (nm_may x), show fairv ((nm y).1, (nm y).2.1, (nm y).2.2.1, (nm y).2.2.2) = nm y from fairv_of (nm_may y)]
theorem rcmp_sn {x : S30} {p : Nm} (hx : ok30 x) (hp : mayP p) (k : Nat) (hk : 1 ≤ k) : pelorusref05_Cmp.f k x.f0 x.f1 x.f2 x.f3 p.1 p.2.1 p.2.2.1 p.2.2.2 = some (sgn (kv (nm x) - kv p)) := by
  have := rcmp_ss hx (ok_may hp) k hk
  rw [nm_s30 hp] at this
  exact this
def lesv (a : Nm) (l : List S30) : Nm := l.foldl (fun a x => if kv (nm x) < kv a then nm x else a) a
def mosv (a : Nm) (l : List S30) : Nm := l.foldl (fun a x => if kv a < kv (nm x) then nm x else a) a
theorem rd30 (l : List S30) (i : Nat) (h : i < l.length) : rd_T30 l (i : Int) = l[i] := by
  show l.getD ((i : Int)).toNat z30 = l[i]
  rw [Int.toNat_natCast, List.getD_eq_getElem?_getD, List.getElem?_eq_getElem h]; rfl
theorem lesv_at (a : Nm) (l : List S30) (i : Nat) (h : i < l.length) : lesv a (l.drop i) = lesv (if kv (nm l[i]) < kv a then nm l[i] else a) (l.drop (i + 1)) := by
  rw [List.drop_eq_getElem_cons h]; rfl
theorem mosv_at (a : Nm) (l : List S30) (i : Nat) (h : i < l.length) : mosv a (l.drop i) = mosv (if kv a < kv (nm l[i]) then nm l[i] else a) (l.drop (i + 1)) := by
  rw [List.drop_eq_getElem_cons h]; rfl
theorem least_l0 (l : List S30) (hl : l.length ≤ 1073741824) (ho : ∀ x ∈ l, ok30 x) (n : Nat) : ∀ (i : Nat) (a : Nm), n + i = l.length → mayP a → ∀ k, n + 2 ≤ k → num_Least.l0 k l (l.length : Int) (i : Int) a.1 a.2.1 a.2.2.1 a.2.2.2 = some (lesv a (l.drop i)) := by
  induction n with
  | zero =>
    intro i a hi ha k hk
    obtain ⟨k, rfl⟩ : ∃ m, k = m + 1 := ⟨k - 1, by omega⟩
    simp only [num_Least.l0]
    rw [if_neg (by omega), show i = l.length by omega, List.drop_length]
    rfl
  | succ n ih =>
    intro i a hi ha k hk
    obtain ⟨k, rfl⟩ : ∃ m, k = m + 1 := ⟨k - 1, by omega⟩
    have hil : i < l.length := by omega
    have hx := ho l[i] (List.getElem_mem hil)
    simp only [num_Least.l0]
    rw [if_pos (by omega), if_pos (by omega), if_pos (by omega), rd30 l i hil, cmp_sn hx ha, Option.bind_some, w64_succ (by omega), lesv_at a l i hil]
    by_cases hc : kv (nm l[i]) < kv a
    · rw [if_pos (sgn_lt0.2 (by omega)), fair_s hx, Option.bind_some, if_pos hc]
      exact ih (i + 1) _ (by omega) (nm_may _) k (by omega)
    · rw [if_neg (fun h => hc (by have := sgn_lt0.1 h; omega)), if_neg hc]
      exact ih (i + 1) _ (by omega) ha k (by omega)
theorem most_l0 (l : List S30) (hl : l.length ≤ 1073741824) (ho : ∀ x ∈ l, ok30 x) (n : Nat) : ∀ (i : Nat) (a : Nm), n + i = l.length → mayP a → ∀ k, n + 2 ≤ k → num_Most.l0 k l (l.length : Int) (i : Int) a.1 a.2.1 a.2.2.1 a.2.2.2 = some (mosv a (l.drop i)) := by
  induction n with
  | zero =>
    intro i a hi ha k hk
    obtain ⟨k, rfl⟩ : ∃ m, k = m + 1 := ⟨k - 1, by omega⟩
    simp only [num_Most.l0]
    rw [if_neg (by omega), show i = l.length by omega, List.drop_length]
    rfl
  | succ n ih =>
    intro i a hi ha k hk
    obtain ⟨k, rfl⟩ : ∃ m, k = m + 1 := ⟨k - 1, by omega⟩
    have hil : i < l.length := by omega
    have hx := ho l[i] (List.getElem_mem hil)
    simp only [num_Most.l0]
    rw [if_pos (by omega), if_pos (by omega), if_pos (by omega), rd30 l i hil, cmp_sn hx ha, Option.bind_some, w64_succ (by omega), mosv_at a l i hil]
    by_cases hc : kv a < kv (nm l[i])
    · rw [if_pos (sgn_gt0.2 (by omega)), fair_s hx, Option.bind_some, if_pos hc]
      exact ih (i + 1) _ (by omega) (nm_may _) k (by omega)
    · rw [if_neg (fun h => hc (by have := sgn_gt0.1 h; omega)), if_neg hc]
      exact ih (i + 1) _ (by omega) ha k (by omega)
theorem rleast_l0 (l : List S30) (hl : l.length ≤ 1073741824) (ho : ∀ x ∈ l, ok30 x) (n : Nat) : ∀ (i : Nat) (a : Nm), n + i = l.length → mayP a → ∀ k, n + 2 ≤ k → pelorusref05_Least.l0 k l (i : Int) a.1 a.2.1 a.2.2.1 a.2.2.2 = some (lesv a (l.drop i)) := by
  induction n with
  | zero =>
    intro i a hi ha k hk
    obtain ⟨k, rfl⟩ : ∃ m, k = m + 1 := ⟨k - 1, by omega⟩
    simp only [pelorusref05_Least.l0]
    rw [if_neg (by omega), show i = l.length by omega, List.drop_length]
    rfl
  | succ n ih =>
    intro i a hi ha k hk
    obtain ⟨k, rfl⟩ : ∃ m, k = m + 1 := ⟨k - 1, by omega⟩
    have hil : i < l.length := by omega
    have hx := ho l[i] (List.getElem_mem hil)
    simp only [pelorusref05_Least.l0]
    rw [if_pos (by omega), if_pos (by omega), rd30 l i hil, rcmp_sn hx ha k (by omega), Option.bind_some, w64_succ (by omega), lesv_at a l i hil]
    by_cases hc : kv (nm l[i]) < kv a
    · rw [if_pos (sgn_lt0.2 (by omega)), rfair_s hx, Option.bind_some, if_pos hc]
      exact ih (i + 1) _ (by omega) (nm_may _) k (by omega)
    · rw [if_neg (fun h => hc (by have := sgn_lt0.1 h; omega)), if_neg hc]
      exact ih (i + 1) _ (by omega) ha k (by omega)
theorem rmost_l0 (l : List S30) (hl : l.length ≤ 1073741824) (ho : ∀ x ∈ l, ok30 x) (n : Nat) : ∀ (i : Nat) (a : Nm), n + i = l.length → mayP a → ∀ k, n + 2 ≤ k → pelorusref05_Most.l0 k l (i : Int) a.1 a.2.1 a.2.2.1 a.2.2.2 = some (mosv a (l.drop i)) := by
  induction n with
  | zero =>
    intro i a hi ha k hk
    obtain ⟨k, rfl⟩ : ∃ m, k = m + 1 := ⟨k - 1, by omega⟩
    simp only [pelorusref05_Most.l0]
    rw [if_neg (by omega), show i = l.length by omega, List.drop_length]
    rfl
  | succ n ih =>
    intro i a hi ha k hk
    obtain ⟨k, rfl⟩ : ∃ m, k = m + 1 := ⟨k - 1, by omega⟩
    have hil : i < l.length := by omega
    have hx := ho l[i] (List.getElem_mem hil)
    simp only [pelorusref05_Most.l0]
    rw [if_pos (by omega), if_pos (by omega), rd30 l i hil, rcmp_sn hx ha k (by omega), Option.bind_some, w64_succ (by omega), mosv_at a l i hil]
    by_cases hc : kv a < kv (nm l[i])
    · rw [if_pos (sgn_gt0.2 (by omega)), rfair_s hx, Option.bind_some, if_pos hc]
      exact ih (i + 1) _ (by omega) (nm_may _) k (by omega)
    · rw [if_neg (fun h => hc (by have := sgn_gt0.1 h; omega)), if_neg hc]
      exact ih (i + 1) _ (by omega) ha k (by omega)
def infn (b : Bool) : Nm := (2, b, 0, 0)
theorem inf_may (b : Bool) : mayP (infn b) := .inr (.inr ⟨rfl, rfl, rfl⟩)
theorem least_ev (l : List S30) (hl : l.length ≤ 1073741824) (ho : ∀ x ∈ l, ok30 x) (k : Nat) (hk : l.length + 2 ≤ k) : num_Least.f k l = some (lesv (infn false) l) := least_l0 l hl ho l.length 0 (infn false) (by omega) (inf_may _) k hk
theorem most_ev (l : List S30) (hl : l.length ≤ 1073741824) (ho : ∀ x ∈ l, ok30 x) (k : Nat) (hk : l.length + 2 ≤ k) : num_Most.f k l = some (mosv (infn true) l) := most_l0 l hl ho l.length 0 (infn true) (by omega) (inf_may _) k hk
theorem rleast_ev (l : List S30) (hl : l.length ≤ 1073741824) (ho : ∀ x ∈ l, ok30 x) (k : Nat) (hk : l.length + 2 ≤ k) : pelorusref05_Least.f k l = some (lesv (infn false) l) := rleast_l0 l hl ho l.length 0 (infn false) (by omega) (inf_may _) k hk
theorem rmost_ev (l : List S30) (hl : l.length ≤ 1073741824) (ho : ∀ x ∈ l, ok30 x) (k : Nat) (hk : l.length + 2 ≤ k) : pelorusref05_Most.f k l = some (mosv (infn true) l) := rmost_l0 l hl ho l.length 0 (infn true) (by omega) (inf_may _) k hk
theorem lesv_may (l : List S30) : ∀ {a : Nm}, mayP a → mayP (lesv a l) := by
  induction l with
  | nil => intro a h; exact h
  | cons x l ih =>
    intro a h
    show mayP (lesv (if kv (nm x) < kv a then nm x else a) l)
    apply ih
    split
    · exact nm_may x
    · exact h
theorem mosv_may (l : List S30) : ∀ {a : Nm}, mayP a → mayP (mosv a l) := by
  induction l with
  | nil => intro a h; exact h
  | cons x l ih =>
    intro a h
    show mayP (mosv (if kv a < kv (nm x) then nm x else a) l)
    apply ih
    split
    · exact nm_may x
    · exact h
theorem les_kv (a : Nm) (x : S30) : kv (if kv (nm x) < kv a then nm x else a) = min (kv a) (kv (nm x)) := by split <;> omega
theorem mos_kv (a : Nm) (x : S30) : kv (if kv a < kv (nm x) then nm x else a) = max (kv a) (kv (nm x)) := by split <;> omega
theorem lesv3 (x y z : S30) : kv (lesv (infn false) [x, y, z]) = min (min (kv (nm x)) (kv (nm y))) (kv (nm z)) := by
  have h := (kv_bd (nm_may x)).2
  show kv (if _ then _ else _) = _
  rw [les_kv, les_kv, les_kv, show kv (infn false) = 2097153 * 9223372036854775808 + 1 from rfl]
  omega
theorem mosv3 (x y z : S30) : kv (mosv (infn true) [x, y, z]) = max (max (kv (nm x)) (kv (nm y))) (kv (nm z)) := by
  have h := (kv_bd (nm_may x)).1
  show kv (if _ then _ else _) = _
  rw [mos_kv, mos_kv, mos_kv, show kv (infn true) = -(2097153 * 9223372036854775808 + 1) from rfl]
  omega
end Go.Proofs.YtkemnoejpbknhaaDoor.T

namespace Go.Proofs.YtkemnoejpbknhaaDoor.T
set_option linter.unusedVariables false
set_option linter.unusedSimpArgs false
open Go.RowKit Go.Proofs.YtkemnoejpbknhaaDoorW.PrintWords Go.Proofs.YtkemnoejpbknhaaDoorW.PrintMore Go.Proofs.YtkemnoejpbknhaaDoor.PA

/-- Halved as often as that goes; an exponent that is too far is none. -/
theorem m3_gen (neg : Bool) (n : Nat) : ∀ (v e i : Int), 0 < v → bl v = n → 0 ≤ i → i + n ≤ 4000000 → n ≤ 100000 → -4194304 ≤ e → e + n ≤ 8388608 →
    ∃ (o : Int) (t : Nat), 0 < o ∧ o % 2 = 1 ∧ v = o * 2 ^ t ∧ ∃ K, ∀ k, K ≤ k → pelorusref03_Make.l0 k e i neg (lim v) = some (if e + t ≤ 4194304 then (neg, lim o, e + t) else (false, [], 0)) := by
  induction n with
  | zero => intro v e i hv hb; have := bl_pos hv; omega
  | succ n ih =>
    intro v e i hv hb i0 i1 hn e0 e1
    have ev := even_eq (v := v) (by omega)
    by_cases h2 : v % 2 = 0
    · have hb2 := bl_half hv h2
      obtain ⟨o, t, o0, o1, ho, hE⟩ := ih (v / 2) (e + 1) (i + 1) (by omega) (by omega) (by omega) (by omega) (by omega) (by omega) (by omega)
      refine ⟨o, t + 1, o0, o1, ?_, ?_⟩
      · rw [p2_succ, ← Int.mul_assoc, Int.mul_comm o 2, Int.mul_assoc, ← ho]; omega
      · have hl := len_lim (v := v) (by omega) (bl v).toNat (bl_lt (by omega))
        have s := rshr_ev (lim v) 1 (U_lim (by omega)) (by omega)
        rw [val_lim (by omega)] at s
        have sv : shrv v 1 = v / 2 := by unfold shrv; rw [if_neg (by decide)]; rfl
        rw [sv] at s
        obtain ⟨K1, s⟩ := s
        obtain ⟨K2, hE⟩ := hE
        refine ⟨K1 + K2 + 1, fun k hk => ?_⟩
        obtain ⟨k, rfl⟩ : ∃ m, k = m + 1 := ⟨k - 1, by omega⟩
        simp only [pelorusref03_Make.l0]
        rw [if_pos (by omega), ev, Option.bind_some, decide_eq_true ⟨by omega, h2⟩, if_pos rfl, s k (by omega), Option.bind_some, w64 (by omega) (by omega), w64 (by omega) (by omega), hE k (by omega), show e + 1 + (t : Int) = e + ((t + 1 : Nat) : Int) by omega]
    · refine ⟨v, 0, hv, by omega, by simp, 1, fun k hk => ?_⟩
      obtain ⟨k, rfl⟩ : ∃ m, k = m + 1 := ⟨k - 1, by omega⟩
      simp only [pelorusref03_Make.l0]
      rw [if_pos (by omega), ev, Option.bind_some, decide_eq_false (fun h => h2 h.2), if_neg (by decide)]
      by_cases h3 : e > 4194304
      · rw [if_pos h3, if_neg (by omega)]
      · rw [if_neg h3, if_pos (by omega), show e + ((0 : Nat) : Int) = e by omega]
theorem rmk_ev (neg : Bool) (l : List Int) (e : Int) (h : U l) (hb : l.length ≤ 100000000) (hl : bl (val l) ≤ 100000) {d : Dd} (hd : Dv d (sg neg (val l)) e) : ∃ K, ∀ k, K ≤ k → pelorusref03_Make.f k neg l e = some d := by
  have hn := val_nonneg h
  obtain ⟨K, hK⟩ := make2_ev neg l h (by omega)
  have nl := lim_nil_iff hn
  rcases hd with ⟨hs, rfl⟩ | ⟨o, t, o0, o1, s0, hs, rfl⟩
  · have hz : val l = 0 := by have := sg_abs neg hn; rw [hs] at this; simpa using this.symm
    refine ⟨K + 1, fun k hk => ?_⟩
    obtain ⟨k, rfl⟩ : ∃ m, k = m + 1 := ⟨k - 1, by omega⟩
    unfold pelorusref03_Make.f
    rw [hK (k + 1) (by omega), Option.bind_some, hz, show lim 0 = [] from limN_zero]
    rfl
  · rw [sg_abs neg hn] at hs
    have v0 : 0 < val l := by rw [hs]; exact Int.mul_pos o0 (p2_pos t)
    have bp := bl_pos v0
    rw [sg_lt neg v0]
    by_cases he : -4194304 ≤ e ∧ e ≤ 4194304
    · obtain ⟨o', t', o0', o1', ho', K2, hE⟩ := m3_gen neg (bl (val l)).toNat (val l) e 0 v0 (by omega) (by decide) (by omega) (by omega) he.1 (by omega)
      obtain ⟨rfl, rfl⟩ := odd_un o1 o1' (hs.symm.trans ho')
      refine ⟨K + K2 + 1, fun k hk => ?_⟩
      obtain ⟨k, rfl⟩ : ∃ m, k = m + 1 := ⟨k - 1, by omega⟩
      unfold pelorusref03_Make.f
      rw [hK (k + 1) (by omega), Option.bind_some]
      simp only
      rw [if_neg (by omega), if_neg (by omega), decide_eq_false (show ¬ e > 4194304 by omega), decide_eq_true (show val l ≠ 0 by omega), Bool.and_true]
      simp only [pelorusref03_Make.j0, Bool.false_eq_true, if_false]
      rw [hE k (by omega)]
      by_cases h3 : e + (t : Int) ≤ 4194304
      · rw [if_pos h3, if_pos ⟨he.1, he.2, h3⟩]
      · rw [if_neg h3, if_neg (fun x => h3 x.2.2)]
    · refine ⟨K + 1, fun k hk => ?_⟩
      obtain ⟨k, rfl⟩ : ∃ m, k = m + 1 := ⟨k - 1, by omega⟩
      unfold pelorusref03_Make.f
      rw [hK (k + 1) (by omega), Option.bind_some, if_neg (show ¬ (-4194304 ≤ e ∧ e ≤ 4194304 ∧ e + (t : Int) ≤ 4194304) from fun x => he ⟨x.1, x.2.1⟩)]
      simp only
      rw [if_neg (show ¬ ((lim (val l)).length : Int) = 0 by omega)]
      by_cases h1 : e < -4194304
      · rw [if_pos h1]; simp [pelorusref03_Make.j0]
      · rw [if_neg h1, decide_eq_true (show e > 4194304 by omega)]; simp [pelorusref03_Make.j0]
theorem round5_of {l : List Int} {n neg : Bool} {e E o : Int} (o0 : 0 < o) (o1 : o % 2 = 1) (bo9 : bl o ≤ 90000) (E0 : -5000000 ≤ E) (E1 : E ≤ 5000000) (up : Bool) (hm : ∃ K, ∀ k, K ≤ k → pelorusref03_Make.f k n l e = some (neg, lim o, E)) :
    ∃ K, ∀ k, K ≤ k → pelorusref05_Round.f k n l e up = some (rnd neg o E (up != neg)) := by
  obtain ⟨K1, h1⟩ := hm
  have po := bl_pos o0
  have lo := len_lim (v := o) (by omega) (bl o).toNat (bl_lt (by omega))
  have nl := lim_nil_iff (n := o) (by omega)
  obtain ⟨K2, h2⟩ := rlen_ev (lim o) (U_lim (by omega)) (by omega)
  rw [val_lim (by omega)] at h2
  by_cases hb : bl o ≤ 64
  · obtain ⟨j, hj⟩ : ∃ j : Nat, 64 - bl o = j := ⟨(64 - bl o).toNat, by omega⟩
    have w : wrap64 (64 - bl o) = (j : Int) := by rw [w64 (by omega) (by omega)]; omega
    obtain ⟨K3, h3⟩ := rshl_ev (lim o) j (U_lim (by omega)) (by omega)
    rw [val_lim (by omega), shlv_eq (by omega) (by omega), Int.toNat_natCast] at h3
    have pj := p2_pos j
    have v0 := Int.mul_pos o0 pj
    have v1 := mul_lt_p j (bl_lt (n := o) (by omega))
    rw [← p2_add, show (bl o).toNat + j = 64 by omega, p64] at v1
    obtain ⟨K4, h4⟩ := word_ev (v := o * 2 ^ j) (by omega) v1
    refine ⟨K1 + K2 + K3 + K4, fun k hk => ?_⟩
    unfold pelorusref05_Round.f
    rw [h1 k (by omega), Option.bind_some]
    simp only
    rw [if_neg (by omega), h2 k (by omega), Option.bind_some, if_pos hb, w, h3 k (by omega), Option.bind_some, h4 k (by omega), Option.bind_some, fin5_eq, Option.bind_some, w64 (x := E + bl o) (by omega) (by omega), w64 (by omega) (by omega)]
    unfold rnd
    rw [if_pos hb, hj, Int.toNat_natCast]
  · obtain ⟨j, hj⟩ : ∃ j : Nat, bl o - 64 = (j + 1 : Nat) := ⟨(bl o - 65).toNat, by omega⟩
    have w : wrap64 (bl o - 64) = ((j + 1 : Nat) : Int) := by rw [w64 (by omega) (by omega)]; omega
    obtain ⟨K3, h3⟩ := rshr_ev (lim o) ((j + 1 : Nat) : Int) (U_lim (by omega)) (by omega)
    rw [val_lim (by omega), shrv_eq (by omega), Int.toNat_natCast] at h3
    have pj := p2_pos (j + 1)
    have q0 := Int.le_ediv_of_mul_le (a := 9223372036854775808) (b := o) pj (by
      have := bl_ge o0
      rw [show (bl o - 1).toNat = 63 + (j + 1) by omega, p2_add, p63] at this
      exact this)
    have q1 := Int.ediv_lt_of_lt_mul (a := o) (b := 18446744073709551616) pj (by
      have := bl_lt (n := o) (by omega)
      rw [show (bl o).toNat = 64 + (j + 1) by omega, p2_add, p64] at this
      exact this)
    have cut : decide (o % 2 ^ (j + 1) ≠ 0) = true := by
      refine decide_eq_true fun h => ?_
      have := Int.mul_ediv_add_emod o (2 ^ (j + 1))
      rw [h, p2_succ, Int.mul_assoc] at this
      omega
    have er2 : rnd neg o E (up != neg) = grw neg (o / 2 ^ (j + 1)) (E + bl o - 64) true (up != neg) := by
      unfold rnd
      rw [if_neg hb, hj, Int.toNat_natCast, cut]
    rw [er2]
    have w1 : wrap64 (wrap64 (E + bl o) - 64) = E + bl o - 64 := by rw [w64 (x := E + bl o) (by omega) (by omega), w64 (by omega) (by omega)]
    generalize hq : o / 2 ^ (j + 1) = q at *
    have lq := len_lim (v := q) (by omega) 64 (by rw [p64]; exact q1)
    cases haw : (up != neg)
    · obtain ⟨K4, h4⟩ := word_ev (v := q) (by omega) q1
      refine ⟨K1 + K2 + K3 + K4, fun k hk => ?_⟩
      unfold pelorusref05_Round.f
      rw [h1 k (by omega), Option.bind_some]
      simp only
      rw [if_neg (by omega), h2 k (by omega), Option.bind_some, if_neg hb, w, h3 k (by omega), Option.bind_some, haw, if_neg (by decide), h4 k (by omega), Option.bind_some, fin5_eq, Option.bind_some, w1]
      unfold grw
      rw [if_neg (by simp)]
    · obtain ⟨K4, h4⟩ := radd_ev (lim q) [1] (U_lim (by omega)) (U_single (by decide) (by decide)) (by omega) (by simp)
      rw [val_lim (by omega), show val [1] = 1 by simp] at h4
      have lq1 := len_lim (v := q + 1) (by omega) 65 (by rw [show (2 : Int) ^ 65 = 36893488147419103232 by decide]; omega)
      obtain ⟨K5, h5⟩ := rlen_ev (lim (q + 1)) (U_lim (by omega)) (by omega)
      rw [val_lim (by omega)] at h5
      by_cases hc : q + 1 = 18446744073709551616
      · have b65 : bl (q + 1) = 65 := by rw [hc]; decide +kernel
        obtain ⟨K6, h6⟩ := rshr_ev (lim (q + 1)) 1 (U_lim (by omega)) (by omega)
        rw [val_lim (by omega), show shrv (q + 1) 1 = 9223372036854775808 by rw [hc]; decide +kernel] at h6
        obtain ⟨K7, h7⟩ := word_ev (v := 9223372036854775808) (by decide) (by decide)
        refine ⟨K1 + K2 + K3 + K4 + K5 + K6 + K7, fun k hk => ?_⟩
        unfold pelorusref05_Round.f
        rw [h1 k (by omega), Option.bind_some]
        simp only
        rw [if_neg (by omega), h2 k (by omega), Option.bind_some, if_neg hb, w, h3 k (by omega), Option.bind_some, haw, if_pos rfl, h4 k (by omega), Option.bind_some, h5 k (by omega), Option.bind_some, if_pos (by omega), h6 k (by omega), Option.bind_some, h7 k (by omega), Option.bind_some, fin5_eq, Option.bind_some, w1, w64 (by omega) (by omega)]
        unfold grw
        rw [if_pos ⟨rfl, rfl⟩, if_pos hc]
      · have b64 := bl_le (n := q + 1) (m := 64) (by rw [p64]; omega)
        obtain ⟨K7, h7⟩ := word_ev (v := q + 1) (by omega) (by omega)
        refine ⟨K1 + K2 + K3 + K4 + K5 + K7, fun k hk => ?_⟩
        unfold pelorusref05_Round.f
        rw [h1 k (by omega), Option.bind_some]
        simp only
        rw [if_neg (by omega), h2 k (by omega), Option.bind_some, if_neg hb, w, h3 k (by omega), Option.bind_some, haw, if_pos rfl, h4 k (by omega), Option.bind_some, h5 k (by omega), Option.bind_some, if_neg (by omega), h7 k (by omega), Option.bind_some, fin5_eq, Option.bind_some, w1]
        unfold grw
        rw [if_pos ⟨rfl, rfl⟩, if_neg hc]

theorem bl_dv {d : Dd} {s e : Int} (h : Dv d s e) {o : Int} (o0 : 0 < o) (ho : d.2.1 = lim o) : bl o ≤ bl s.natAbs := by
  have := h.le
  rw [ho, val_lim (by omega)] at this
  have h2 := bl_le (Int.lt_of_le_of_lt this (bl_lt (n := (s.natAbs : Int)) (by omega)))
  have h3 := bl_nonneg (s.natAbs : Int)
  omega
theorem rround_ev (neg : Bool) (l : List Int) (e : Int) (h : U l) (hb : l.length ≤ 100000000) (hl : bl (val l) ≤ 90000) {d : Dd} (hd : Dv d (sg neg (val l)) e) (up : Bool) : ∃ K, ∀ k, K ≤ k → pelorusref05_Round.f k neg l e up = some (rdv d up) := by
  have hm := rmk_ev neg l e h hb (by omega) hd
  have hE := hd.E
  have hle := hd.le
  rcases hd.odd with h0 | ⟨o, o0, o1, ho⟩
  · subst h0
    obtain ⟨K1, h1⟩ := hm
    refine ⟨K1, fun k hk => ?_⟩
    unfold pelorusref05_Round.f
    rw [h1 k (by omega), Option.bind_some]
    rfl
  · have hbo := bl_dv hd o0 ho
    rw [sg_abs neg (val_nonneg h)] at hbo
    obtain ⟨n, m, E⟩ := d
    simp only at ho hE hm
    subst ho
    have er : rdv (n, lim o, E) up = rnd n o E (up != n) := by
      unfold rdv
      simp only
      rw [val_lim (by omega), rnz_sg o0]
    rw [er]
    exact round5_of o0 o1 (by omega) (by omega) (by omega) up hm
/-- A number that layer 3 can hold is rounded as it is. -/
theorem rdv_eq {d : Dd} {s e : Int} (h : Dv d s e) (up : Bool) (hs : s ≠ 0) (e0 : -4194304 ≤ e) (e1 : e + bl s.natAbs ≤ 4194304) : rdv d up = rnz s e up := by
  have bn := bl_nonneg (s.natAbs : Int)
  rcases h with ⟨h0, rfl⟩ | ⟨o, t, o0, o1, s0, ho, rfl⟩
  · exact absurd h0 hs
  · have bo := blp o0 t
    have po := bl_pos o0
    rw [← ho] at bo
    rw [if_pos ⟨e0, by omega, by omega⟩]
    unfold rdv
    simp only
    rw [val_lim (by omega), rnz_sg o0]
    unfold rnz
    rw [if_neg hs, ho, rnd_scale o0]
theorem rdv_zero {d : Dd} {e : Int} (h : Dv d 0 e) (up : Bool) : rdv d up = (0, false, 0, 0) := by
  rcases h with ⟨h0, rfl⟩ | ⟨o, t, o0, o1, s0, ho, rfl⟩
  · rfl
  · exact absurd rfl s0
theorem rdv_may (d : Dd) (up : Bool) : mayP (rdv d up) := rnz_may _ _ _
theorem of_rnz (a : Int) (h0 : -9223372036854775808 ≤ a) (h1 : a ≤ 9223372036854775807) (up : Bool) : rnz a 0 up = ofv a := by
  unfold rnz ofv
  by_cases hz : a = 0
  · rw [if_pos hz, if_pos hz]
  · rw [if_neg hz, if_neg hz]
    have b0 := bl_pos (n := (a.natAbs : Int)) (by omega)
    have b1 := bl_le (n := (a.natAbs : Int)) (m := 64) (by rw [p64]; omega)
    have b2 := bl_lt (n := (a.natAbs : Int)) (by omega)
    have b3 := bl_ge (n := (a.natAbs : Int)) (by omega)
    unfold rnd
    rw [if_pos (by omega), bnd_in (by omega) (by omega)]
    congr 3
    omega
theorem rof_ev (a : Int) (h0 : -9223372036854775808 ≤ a) (h1 : a ≤ 9223372036854775807) : ∃ K, ∀ k, K ≤ k → pelorusref05_Of.f k a = some (ofv a) := by
  obtain ⟨d, hd⟩ := Dv.ex a 0
  have ha : (a.natAbs : Int) < 18446744073709551616 := by omega
  have hb : bl (a.natAbs : Int) ≤ 64 := bl_le (by rw [p64]; omega)
  have hU := nw_U a
  have hsg := nw_sg a
  have hlen : (nw a).2.length ≤ 2 := lim_len (by omega) 2 (by rw [show pw 2 = 18446744073709551616 by decide]; exact ha)
  have hval : val (nw a).2 = a.natAbs := val_lim (by omega)
  obtain ⟨K1, h1'⟩ := rfrom_ev a h0 h1
  obtain ⟨K2, h2⟩ := rmk_ev (nw a).1 (nw a).2 0 hU (by omega) (by rw [hval]; omega) (d := d) (by rw [hsg]; exact hd)
  have hd2 := hd.again
  have hdl := hd.len (L := 2) (by unfold B; rw [show pw 2 = 18446744073709551616 by decide]; exact ha)
  have hdv := hd.le
  have hdn := val_nonneg hd.U
  obtain ⟨K3, h3⟩ := rround_ev d.1 d.2.1 d.2.2 hd.U (by omega) (by
    have : bl (val d.2.1) ≤ 64 := bl_le (by rw [p64]; omega)
    omega) hd2 true
  have e : rdv d true = ofv a := by
    rw [← of_rnz a h0 h1 true]
    by_cases hz : a = 0
    · subst hz; rw [rdv_zero hd]; rfl
    · exact rdv_eq hd true hz (by decide) (by omega)
  refine ⟨K1 + K2 + K3, fun k hk => ?_⟩
  unfold pelorusref05_Of.f
  rw [h1' k (by omega), Option.bind_some, h2 k (by omega), Option.bind_some, h3 k (by omega), Option.bind_some, e]
end Go.Proofs.YtkemnoejpbknhaaDoor.T

namespace Go.Proofs.YtkemnoejpbknhaaDoor.T
set_option linter.unusedVariables false
set_option linter.unusedSimpArgs false
open Go.RowKit Go.Proofs.YtkemnoejpbknhaaDoorW.PrintWords Go.Proofs.YtkemnoejpbknhaaDoorW.PrintMore Go.Proofs.YtkemnoejpbknhaaDoor.PA

theorem of2_ev : ∃ K, ∀ k, K ≤ k → pelorusref05_Of.f k 2 = some (ofv 2) := by
  obtain ⟨K1, h1⟩ := make2_ev false [2, 0] (by simp [U]) (by simp)
  rw [show val [2, 0] = 2 by simp] at h1
  obtain ⟨d, hd, K2, h2⟩ := make3_ev false (lim 2) 0 (U_lim (by decide)) (by have := len_lim (v := 2) (by decide) 2 (by decide); omega) (by rw [val_lim (by decide)]; decide +kernel) (by decide) (by rw [val_lim (by decide)]; decide +kernel)
  rw [val_lim (by decide)] at hd
  obtain ⟨K3, h3⟩ := round_ev hd true (by decide +kernel) (by decide) (by decide)
  have e : rnz (sg false 2) 0 true = ofv 2 := by decide +kernel
  rw [e] at h3
  refine ⟨K1 + K2 + K3, fun k hk => ?_⟩
  unfold pelorusref05_Of.f pelorusref02_From.f
  rw [if_neg (by decide)]
  have w : ([(Int.tmod (IntKind.u64.wrap (2)) 4294967296) % 4294967296, (IntKind.u64.wrap (Int.tdiv (IntKind.u64.wrap (2)) 4294967296)) % 4294967296] : List Int) = [2, 0] := by decide +kernel
  rw [w, show decide ((2 : Int) < 0) = false by decide, h1 k (by omega), Option.bind_some, Option.bind_some]
  simp only [Bool.false_and]
  rw [h2 k (by omega), Option.bind_some, h3 k (by omega), Option.bind_some]
end Go.Proofs.YtkemnoejpbknhaaDoor.T

namespace Go.Proofs.YtkemnoejpbknhaaDoor.T
set_option linter.unusedVariables false
set_option linter.unusedSimpArgs false
open Go.RowKit Go.Proofs.YtkemnoejpbknhaaDoorW.PrintWords Go.Proofs.YtkemnoejpbknhaaDoorW.PrintMore Go.Proofs.YtkemnoejpbknhaaDoor.PA

/-- A number as it comes in, of limbs and a power of two: it is S * 2^f, S of no more than N bits. -/
structure Z (n : Bool) (l : List Int) (e f S : Int) (N : Nat) : Prop where
  u : U l
  len : l.length ≤ 2000
  lo : f ≤ e
  hi : e ≤ 1000000
  eq : S = sg n (val l) * 2 ^ (e - f).toNat
  bd : (S.natAbs : Int) < 2 ^ N
theorem Rep.un {d d' : Dd} {s f : Int} (h : Rep d s f) (h' : Rep d' s f) : d = d' := by
  rcases h with ⟨h0, h⟩ | ⟨o, t, o0, o1, s0, hs, h⟩ <;> rcases h' with ⟨h0', h'⟩ | ⟨o', t', o0', o1', s0', hs', h'⟩
  · rw [h, h']
  · exact absurd h0 s0'
  · exact absurd h0' s0
  · obtain ⟨rfl, rfl⟩ := odd_un o1 o1' (hs.symm.trans hs')
    rw [h, h']
theorem sg_mulp (n : Bool) (x y : Int) : sg n (x * y) = sg n x * y := by
  unfold sg; split
  · rw [Int.neg_mul]
  · rfl
theorem abs_mulp (s : Int) (j : Nat) : ((s * 2 ^ j).natAbs : Int) = s.natAbs * 2 ^ j := by
  have := p2_pos j
  rw [Int.natAbs_mul, Int.natCast_mul, show ((((2 : Int) ^ j).natAbs : Nat) : Int) = 2 ^ j from Int.natAbs_of_nonneg (by omega)]
theorem abs_le_mulp (s : Int) (j : Nat) : (s.natAbs : Int) ≤ ((s * 2 ^ j).natAbs : Int) := by
  rw [abs_mulp]
  have := Int.mul_le_mul_of_nonneg_left (show 1 ≤ (2 : Int) ^ j by have := p2_pos j; omega) (show 0 ≤ (s.natAbs : Int) by omega)
  omega
theorem Rep.val {d : Dd} {S f : Int} (h : Rep d S f) : (S = 0 ∧ d = (false, [], 0)) ∨ ∃ t : Nat, d.2.2 = f + t ∧ S = sg d.1 (val d.2.1) * 2 ^ t ∧ ∃ o : Int, 0 < o ∧ o % 2 = 1 ∧ d.2.1 = lim o ∧ (S.natAbs : Int) = o * 2 ^ t := by
  rcases h with h | ⟨o, t, o0, o1, s0, hs, rfl⟩
  · exact .inl h
  · refine .inr ⟨t, rfl, ?_, o, o0, o1, rfl, hs⟩
    simp only
    rw [val_lim (by omega), ← sg_mulp, ← hs, sg_of]
theorem Z.of_rep {d : Dd} {S f : Int} {N : Nat} (h : Rep d S f) (hb : (S.natAbs : Int) < 2 ^ N) (hN : N ≤ 60000) (f0 : -1000000 ≤ f) (f1 : f ≤ 0) : Z d.1 d.2.1 d.2.2 f S N := by
  rcases h.val with ⟨rfl, rfl⟩ | ⟨t, hE, hS, o, o0, o1, ho, hs⟩
  · exact ⟨U_nil, by simp, f1, by simp, by simp [sg], hb⟩
  · have b1 := mul_le_p t (show 1 ≤ o by omega)
    have b2 := Int.mul_le_mul_of_nonneg_left (show 1 ≤ (2 : Int) ^ t by have := p2_pos t; omega) (show 0 ≤ o by omega)
    have ht := p2_lt (show (2 : Int) ^ t < 2 ^ N by omega)
    have hl := len_lim (v := o) (by omega) N (by omega)
    refine ⟨by rw [ho]; exact U_lim (by omega), by rw [ho]; omega, by omega, by omega, ?_, hb⟩
    rw [show (d.2.2 - f).toNat = t by omega]
    exact hS
theorem Z.dv {n : Bool} {l : List Int} {e f S : Int} {N : Nat} (h : Z n l e f S N) (f0 : -1000000 ≤ f) : ∃ d, Rep d S f ∧ Dv d (sg n (val l)) e := by
  have hv := val_nonneg h.u
  have rs : ∀ {d : Dd}, Rep d (sg n (val l)) e → Rep d S f := fun {d} hr => by
    have hj : e = f + ((e - f).toNat : Nat) := by have := h.lo; omega
    have h2 : Rep d (sg n (val l)) (f + ((e - f).toNat : Nat)) := by rw [← hj]; exact hr
    have := h2.scale
    rw [← h.eq] at this
    exact this
  by_cases hz : val l = 0
  · have z : sg n (val l) = 0 := by rw [hz]; cases n <;> rfl
    exact ⟨(false, [], 0), rs (.inl ⟨z, rfl⟩), .inl ⟨z, rfl⟩⟩
  · obtain ⟨o, t, o0, o1, ho⟩ := odd_ex (v := val l) (by omega)
    have tl := t_le h.u o0 ho
    have ll := h.len
    have hh := h.hi
    have lo := h.lo
    have s0 := sg_ne n (show 0 < val l by omega)
    have sa := sg_abs n hv
    refine ⟨(decide (sg n (val l) < 0), lim o, e + t), rs (.inr ⟨o, t, o0, o1, s0, by rw [sa, ho], rfl⟩), .inr ⟨o, t, o0, o1, s0, by rw [sa, ho], ?_⟩⟩
    rw [if_pos ⟨by omega, by omega, by omega⟩]
theorem Z.nw {s e f : Int} {N : Nat} (lo : f ≤ e) (hi : e ≤ 1000000) (hN : N ≤ 60000) (hb : ((s * 2 ^ (e - f).toNat).natAbs : Int) < 2 ^ N) : Z (nw s).1 (nw s).2 e f (s * 2 ^ (e - f).toNat) N := by
  have h1 := abs_le_mulp s (e - f).toNat
  have hl := len_lim (v := (s.natAbs : Int)) (by omega) N (by omega)
  exact ⟨nw_U _, by show (lim s.natAbs).length ≤ 2000; omega, lo, hi, by rw [nw_sg], hb⟩
theorem fair_z {n : Bool} {l : List Int} {e f S : Int} {N : Nat} (h : Z n l e f S N) (f0 : -1000000 ≤ f) : ∃ d, Rep d S f ∧ ∃ K, ∀ k, K ≤ k → dy_fair.f k n l e = some d := by
  obtain ⟨d, hd, hv⟩ := h.dv f0
  have := h.len
  exact ⟨d, hd, dfair_ev n l e h.u (by omega) hv⟩
theorem mk_z {n : Bool} {l : List Int} {e f S : Int} {N : Nat} (h : Z n l e f S N) (f0 : -1000000 ≤ f) : ∃ d, Rep d S f ∧ ∃ K, ∀ k, K ≤ k → dy_Make.f k n l e = some d := by
  obtain ⟨d, hd, hv⟩ := h.dv f0
  have := h.len
  exact ⟨d, hd, mk_ev n l e h.u (by omega) hv⟩
theorem neg_z {n : Bool} {l : List Int} {e f S : Int} {N : Nat} (h : Z n l e f S N) (hN : N ≤ 60000) (f0 : -1000000 ≤ f) : ∃ d, Rep d (-S) f ∧ ∃ K, ∀ k, K ≤ k → dy_Neg.f k n l e = some d := by
  have hl := h.len
  obtain ⟨K1, h1⟩ := neg_ev n l h.u (by omega)
  have eS : -S = -sg n (val l) * 2 ^ (e - f).toNat := by rw [h.eq, Int.neg_mul]
  have z : Z (nw (-sg n (val l))).1 (nw (-sg n (val l))).2 e f (-S) N := by
    rw [eS]
    exact Z.nw h.lo h.hi hN (by rw [← eS, Int.natAbs_neg]; exact h.bd)
  obtain ⟨d, hd, K2, h2⟩ := mk_z z f0
  refine ⟨d, hd, K1 + K2, fun k hk => ?_⟩
  unfold dy_Neg.f
  rw [h1 k (by omega), Option.bind_some, h2 k (by omega)]
  rfl
/-- The sum of two that may be. -/
theorem add_z {p q : Dd} {S T f : Int} {N : Nat} (hp : Rep p S f) (hq : Rep q T f) (hS : (S.natAbs : Int) < 2 ^ N) (hT : (T.natAbs : Int) < 2 ^ N) (hN : N ≤ 50000) (f0 : -1000000 ≤ f) (f1 : f ≤ 0) :
    ∃ d, Rep d (S + T) f ∧ ∃ K, ∀ k, K ≤ k → dy_add.f k p.1 p.2.1 p.2.2 q.1 q.2.1 q.2.2 = some d := by
  have key : ∀ {p q : Dd} {S T : Int} {t t' : Nat} {o o' : Int}, p.2.2 = f + t → S = sg p.1 (val p.2.1) * 2 ^ t → (0 < o ∧ o % 2 = 1 ∧ p.2.1 = lim o ∧ (S.natAbs : Int) = o * 2 ^ t) → q.2.2 = f + t' → T = sg q.1 (val q.2.1) * 2 ^ t' →
      (0 < o' ∧ o' % 2 = 1 ∧ q.2.1 = lim o' ∧ (T.natAbs : Int) = o' * 2 ^ t') → (S.natAbs : Int) < 2 ^ N → (T.natAbs : Int) < 2 ^ N → t ≤ t' →
      ∃ d, Rep d (S + T) f ∧ ∃ K, ∀ k, K ≤ k → ((nat_Shl.f k q.2.1 (wrap64 (q.2.2 - p.2.2))).bind fun t => ((whole_Add.f k p.1 p.2.1 q.1 t).bind fun b => ((dy_Make.f k b.1 b.2 p.2.2).bind fun c => (some (c.1, c.2.1, c.2.2))))) = some d := by
    intro p q S T t t' o o' hE eS ho hE' eT ho' hS hT htt
    obtain ⟨j, rfl⟩ := Nat.le.dest htt
    obtain ⟨o0, o1, ho, hs⟩ := ho
    obtain ⟨o0', o1', ho', hs'⟩ := ho'
    have b1 := mul_le_p (t + j) (show 1 ≤ o' by omega)
    have ht := p2_lt (show (2 : Int) ^ (t + j) < 2 ^ N by omega)
    have zp := Z.of_rep (d := p) (.inr ⟨o, t, o0, o1, by intro h0; rw [h0] at hs; have := Int.mul_pos o0 (p2_pos t); simp at hs; omega, hs, by
      have : decide (S < 0) = p.1 := by
        rw [eS, ho, val_lim (by omega), ← sg_mulp]
        exact sg_lt _ (Int.mul_pos o0 (p2_pos t))
      rw [this, ← ho, ← hE]⟩) hS (by omega) f0 f1
    have zq := Z.of_rep (d := q) (.inr ⟨o', t + j, o0', o1', by intro h0; rw [h0] at hs'; have := Int.mul_pos o0' (p2_pos (t + j)); simp at hs'; omega, hs', by
      have : decide (T < 0) = q.1 := by
        rw [eT, ho', val_lim (by omega), ← sg_mulp]
        exact sg_lt _ (Int.mul_pos o0' (p2_pos (t + j)))
      rw [this, ← ho', ← hE']⟩) hT (by omega) f0 f1
    have lp := zp.len
    have lq := zq.len
    obtain ⟨K1, h1⟩ := shl_ev q.2.1 j zq.u (by omega)
    rw [shlv_eq (by omega) (by omega), Int.toNat_natCast] at h1
    have hvq := val_nonneg zq.u
    have v0 : 0 ≤ val q.2.1 * 2 ^ j := Int.mul_nonneg hvq (by have := p2_pos j; omega)
    have ll := len_lim v0 N (by
      have hq2 : val q.2.1 = o' := by rw [ho', val_lim (by omega)]
      rw [hq2]
      have h3 : o' * 2 ^ (t + j) = o' * 2 ^ j * 2 ^ t := by rw [Nat.add_comm, p2_add, Int.mul_assoc]
      have h4 := Int.mul_le_mul_of_nonneg_left (show 1 ≤ (2 : Int) ^ t by have := p2_pos t; omega) (show 0 ≤ o' * 2 ^ j by rw [hq2] at v0; exact v0)
      omega)
    obtain ⟨K2, h2⟩ := addw_ev p.1 q.1 p.2.1 (lim (val q.2.1 * 2 ^ j)) zp.u (U_lim v0) (by omega) (by omega)
    rw [val_lim v0, sg_mulp] at h2
    have eST : S + T = (sg p.1 (val p.2.1) + sg q.1 (val q.2.1) * 2 ^ j) * 2 ^ (p.2.2 - f).toNat := by
      rw [show (p.2.2 - f).toNat = t by omega, Int.add_mul, Int.mul_assoc, ← p2_add, Nat.add_comm j t, ← eS, ← eT]
    have pn := p2_succ N
    have zr : Z (nw (sg p.1 (val p.2.1) + sg q.1 (val q.2.1) * 2 ^ j)).1 (nw (sg p.1 (val p.2.1) + sg q.1 (val q.2.1) * 2 ^ j)).2 p.2.2 f (S + T) (N + 1) := by
      rw [eST]
      exact Z.nw zp.lo zp.hi (by omega) (by rw [← eST]; omega)
    obtain ⟨d, hd, K3, h3⟩ := mk_z zr f0
    refine ⟨d, hd, K1 + K2 + K3, fun k hk => ?_⟩
    rw [show wrap64 (q.2.2 - p.2.2) = (j : Int) by rw [w64 (by omega) (by omega)]; omega, h1 k (by omega), Option.bind_some, h2 k (by omega), Option.bind_some, h3 k (by omega)]
    rfl
  rcases hp.val with ⟨rfl, rfl⟩ | ⟨t, hE, eS, o, ho⟩
  · refine ⟨q, by rw [Int.zero_add]; exact hq, 1, fun k hk => ?_⟩
    unfold dy_add.f
    rfl
  have n1 := lim_nil_iff (n := o) (by have := ho.1; omega)
  rcases hq.val with ⟨rfl, rfl⟩ | ⟨t', hE', eT, o', ho'⟩
  · refine ⟨p, by rw [Int.add_zero]; exact hp, 1, fun k hk => ?_⟩
    unfold dy_add.f
    rw [if_neg (by rw [ho.2.2.1]; have := ho.1; omega)]
    rfl
  have n2 := lim_nil_iff (n := o') (by have := ho'.1; omega)
  by_cases hc : t ≤ t'
  · obtain ⟨d, hd, K, hK⟩ := key hE eS ho hE' eT ho' hS hT hc
    refine ⟨d, hd, K, fun k hk => ?_⟩
    unfold dy_add.f
    rw [if_neg (by rw [ho.2.2.1]; have := ho.1; omega), if_neg (by rw [ho'.2.2.1]; have := ho'.1; omega), if_neg (by omega)]
    exact hK k hk
  · obtain ⟨d, hd, K, hK⟩ := key hE' eT ho' hE eS ho hT hS (by omega)
    refine ⟨d, by rw [Int.add_comm]; exact hd, K, fun k hk => ?_⟩
    unfold dy_add.f
    rw [if_neg (by rw [ho.2.2.1]; have := ho.1; omega), if_neg (by rw [ho'.2.2.1]; have := ho'.1; omega), if_pos (by omega)]
    exact hK k hk
theorem abs_add_lt {S T : Int} {N : Nat} (hS : (S.natAbs : Int) < 2 ^ N) (hT : (T.natAbs : Int) < 2 ^ N) : ((S + T).natAbs : Int) < 2 ^ (N + 1) := by
  have := p2_succ N
  omega
theorem abs_mono {S : Int} {N M : Nat} (h : (S.natAbs : Int) < 2 ^ N) (hm : N ≤ M) : (S.natAbs : Int) < 2 ^ M := Int.lt_of_lt_of_le h (p2_mono hm)
theorem abs_neg {S : Int} {N : Nat} (h : (S.natAbs : Int) < 2 ^ N) : ((-S).natAbs : Int) < 2 ^ N := by omega
theorem abs_mul_lt {S T : Int} {N M : Nat} (hS : (S.natAbs : Int) < 2 ^ N) (hT : (T.natAbs : Int) < 2 ^ M) : ((S * T).natAbs : Int) < 2 ^ (N + M) := by
  rw [Int.natAbs_mul, Int.natCast_mul, p2_add]
  have h1 := Int.mul_le_mul_of_nonneg_right (show (S.natAbs : Int) ≤ 2 ^ N by omega) (show 0 ≤ (T.natAbs : Int) by omega)
  have h2 := Int.mul_lt_mul_of_pos_left hT (p2_pos N)
  omega
/-- The sum of a list, from some sum on. -/
theorem addl_z (l : List S26) (f : Int) (N : Nat) (hN : N ≤ 40000) (hl : l.length ≤ 1000) (f0 : -1000000 ≤ f) (f1 : f ≤ 0) (v : S26 → Int) (hz : ∀ x ∈ l, Z x.f0.f0 x.f0.f1 x.f1 f (v x) N) (m : Nat) :
    ∀ (i : Nat) (p : Dd) (S : Int), m + i = l.length → Rep p S f → (S.natAbs : Int) < 2 ^ (N + i) →
    ∃ d, Rep d (S + ((l.drop i).map v).sum) f ∧ ∃ K, ∀ k, K ≤ k → dy_Add.l0 k l (l.length : Int) (i : Int) p.1 p.2.1 p.2.2 = some d := by
  induction m with
  | zero =>
    intro i p S hi hp hS
    rw [List.drop_of_length_le (by omega)]
    obtain ⟨d, hd, K, hK⟩ := mk_z (Z.of_rep hp hS (by omega) f0 f1) f0
    refine ⟨d, by simpa using hd, K + 1, fun k hk => ?_⟩
    obtain ⟨k, rfl⟩ : ∃ m, k = m + 1 := ⟨k - 1, by omega⟩
    simp only [dy_Add.l0]
    rw [if_neg (by omega)]
    unfold dy_own.f
    rw [hK k (by omega)]
    rfl
  | succ m ih =>
    intro i p S hi hp hS
    have hli : i < l.length := by omega
    have hm : l[i] ∈ l := List.getElem_mem hli
    have hzi := hz _ hm
    obtain ⟨q, hq, K1, h1⟩ := fair_z hzi f0
    obtain ⟨d, hd, K2, h2⟩ := add_z hp hq hS (abs_mono hzi.bd (show N ≤ N + i by omega)) (by omega) f0 f1
    obtain ⟨r, hr, K3, h3⟩ := ih (i + 1) d (S + v l[i]) (by omega) hd (abs_add_lt hS (abs_mono hzi.bd (show N ≤ N + i by omega)))
    refine ⟨r, ?_, K1 + K2 + K3 + 1, fun k hk => ?_⟩
    · rw [List.drop_eq_getElem_cons hli, List.map_cons, List.sum_cons, ← Int.add_assoc]
      exact hr
    · obtain ⟨k, rfl⟩ : ∃ m, k = m + 1 := ⟨k - 1, by omega⟩
      have hrd : rd_T26 l (i : Int) = l[i] := by
        unfold rd_T26
        rw [Int.toNat_natCast, List.getD_eq_getElem?_getD, List.getElem?_eq_getElem hli]; rfl
      simp only [dy_Add.l0]
      rw [if_pos (by omega), if_pos (by omega), if_pos (by omega), hrd, h1 k (by omega), Option.bind_some, h2 k (by omega), Option.bind_some, w64_succ (by omega), h3 k (by omega)]
theorem addn_z (l : List S26) (f : Int) (N : Nat) (hN : N ≤ 40000) (hl : l.length ≤ 1000) (f0 : -1000000 ≤ f) (f1 : f ≤ 0) (v : S26 → Int) (hz : ∀ x ∈ l, Z x.f0.f0 x.f0.f1 x.f1 f (v x) N) :
    ∃ d, Rep d ((l.map v).sum) f ∧ ∃ K, ∀ k, K ≤ k → dy_Add.f k l = some d := by
  obtain ⟨d, hd, K, hK⟩ := addl_z l f N hN hl f0 f1 v hz l.length 0 (false, [], 0) 0 (by omega) (.inl ⟨rfl, rfl⟩) (by have := p2_pos (N + 0); simpa using this)
  exact ⟨d, by simpa using hd, K, fun k hk => by unfold dy_Add.f; exact hK k hk⟩
/-- A number's value at a power, as a function of it. -/
def zval (f : Int) (x : S26) : Int := sg x.f0.f0 (val x.f0.f1) * 2 ^ (x.f1 - f).toNat
theorem Z.at_ {n : Bool} {l : List Int} {e f S : Int} {N : Nat} (h : Z n l e f S N) : zval f ⟨⟨n, l⟩, e⟩ = S := h.eq.symm
theorem Z.self {n : Bool} {l : List Int} {e f S : Int} {N : Nat} (h : Z n l e f S N) : Z n l e f (zval f ⟨⟨n, l⟩, e⟩) N := by rw [h.at_]; exact h
theorem add2_z {n n' : Bool} {l l' : List Int} {e e' f S T : Int} {N : Nat} (h : Z n l e f S N) (h' : Z n' l' e' f T N) (hN : N ≤ 40000) (f0 : -1000000 ≤ f) (f1 : f ≤ 0) :
    ∃ d, Rep d (S + T) f ∧ ∃ K, ∀ k, K ≤ k → dy_Add.f k [⟨⟨n, l⟩, e⟩, ⟨⟨n', l'⟩, e'⟩] = some d := by
  have := addn_z [⟨⟨n, l⟩, e⟩, ⟨⟨n', l'⟩, e'⟩] f N hN (by simp) f0 f1 (zval f) (by simp [h.self, h'.self])
  simpa [h.at_, h'.at_] using this
theorem add3_z {n n' n'' : Bool} {l l' l'' : List Int} {e e' e'' f S T R : Int} {N : Nat} (h : Z n l e f S N) (h' : Z n' l' e' f T N) (h'' : Z n'' l'' e'' f R N) (hN : N ≤ 40000) (f0 : -1000000 ≤ f) (f1 : f ≤ 0) :
    ∃ d, Rep d (S + T + R) f ∧ ∃ K, ∀ k, K ≤ k → dy_Add.f k [⟨⟨n, l⟩, e⟩, ⟨⟨n', l'⟩, e'⟩, ⟨⟨n'', l''⟩, e''⟩] = some d := by
  have := addn_z [⟨⟨n, l⟩, e⟩, ⟨⟨n', l'⟩, e'⟩, ⟨⟨n'', l''⟩, e''⟩] f N hN (by simp) f0 f1 (zval f) (by simp [h.self, h'.self, h''.self])
  simpa [h.at_, h'.at_, h''.at_, Int.add_assoc] using this
theorem sub_z {n n' : Bool} {l l' : List Int} {e e' f S T : Int} {N : Nat} (h : Z n l e f S N) (h' : Z n' l' e' f T N) (hN : N ≤ 40000) (f0 : -1000000 ≤ f) (f1 : f ≤ 0) :
    ∃ d, Rep d (S - T) f ∧ ∃ K, ∀ k, K ≤ k → dy_Sub.f k n l e n' l' e' = some d := by
  obtain ⟨q, hq, K1, h1⟩ := neg_z h' (by omega) f0
  obtain ⟨d, hd, K2, h2⟩ := add2_z h (Z.of_rep hq (abs_neg h'.bd) (by omega) f0 f1) hN f0 f1
  refine ⟨d, by rw [Int.sub_eq_add_neg]; exact hd, K1 + K2, fun k hk => ?_⟩
  unfold dy_Sub.f
  rw [h1 k (by omega), Option.bind_some, h2 k (by omega)]
  rfl
theorem sgn_mulp (s : Int) (j : Nat) : sgn (s * 2 ^ j) = sgn s := by
  have hp := p2_pos j
  rcases Int.lt_trichotomy s 0 with h | h | h
  · rw [sgn_neg h, sgn_neg (Int.mul_neg_of_neg_of_pos h hp)]
  · rw [h, Int.zero_mul]
  · rw [sgn_pos h, sgn_pos (Int.mul_pos h hp)]
theorem sign_z {n : Bool} {l : List Int} {e f S : Int} {N : Nat} (h : Z n l e f S N) (hN : N ≤ 60000) (f0 : -1000000 ≤ f) (f1 : f ≤ 0) : ∃ K, ∀ k, K ≤ k → dy_Sign.f k n l e = some (sgn S) := by
  obtain ⟨d, hd, K1, h1⟩ := fair_z h f0
  have z := Z.of_rep hd h.bd hN f0 f1
  have hl := z.len
  obtain ⟨K2, h2⟩ := sign_ev d.1 d.2.1 z.u (by omega)
  refine ⟨K1 + K2, fun k hk => ?_⟩
  unfold dy_Sign.f
  rw [h1 k (by omega), Option.bind_some, h2 k (by omega), Option.bind_some, z.eq, sgn_mulp]
theorem cmp_z {n n' : Bool} {l l' : List Int} {e e' f S T : Int} {N : Nat} (h : Z n l e f S N) (h' : Z n' l' e' f T N) (hN : N ≤ 40000) (f0 : -1000000 ≤ f) (f1 : f ≤ 0) :
    ∃ K, ∀ k, K ≤ k → dy_Cmp.f k n l e n' l' e' = some (sgn (S - T)) := by
  obtain ⟨d, hd, K1, h1⟩ := sub_z h h' hN f0 f1
  obtain ⟨K2, h2⟩ := sign_z (Z.of_rep hd (by rw [Int.sub_eq_add_neg]; exact abs_add_lt h.bd (abs_neg h'.bd)) (by omega) f0 f1) (by omega) f0 f1
  refine ⟨K1 + K2, fun k hk => ?_⟩
  unfold dy_Cmp.f
  rw [h1 k (by omega), Option.bind_some, h2 k (by omega), Option.bind_some]
theorem move_z {n : Bool} {l : List Int} {e f S : Int} {N : Nat} (h : Z n l e f S N) (m : Int) (m0 : -5000 ≤ m) (m1 : m ≤ 5000) (hN : N ≤ 40000) (f0 : -900000 ≤ f) (f1 : f ≤ 0) :
    ∃ d, Rep d S (f + m) ∧ ∃ K, ∀ k, K ≤ k → dy_Move.f k n l e m = some d := by
  obtain ⟨p, hp, K1, h1⟩ := fair_z h (by omega)
  have zp := Z.of_rep hp h.bd (by omega) (by omega) f1
  have lp := zp.len
  have p0 := zp.lo
  have ep : p.2.2 ≤ 40000 := by
    rcases hp.val with ⟨rfl, rfl⟩ | ⟨t, hE, hS, o, o0, o1, ho, hs⟩
    · simp
    · have b1 := mul_le_p t (show 1 ≤ o by omega)
      have b2 := h.bd
      have ht := p2_lt (show (2 : Int) ^ t < 2 ^ N by omega)
      omega
  have zr : Z p.1 p.2.1 (p.2.2 + m) (f + m) S N := ⟨zp.u, zp.len, by omega, by omega, by rw [show p.2.2 + m - (f + m) = p.2.2 - f by omega]; exact zp.eq, zp.bd⟩
  obtain ⟨d, hd, K2, h2⟩ := mk_z zr (by omega)
  refine ⟨d, hd, K1 + K2, fun k hk => ?_⟩
  unfold dy_Move.f
  rw [h1 k (by omega), Option.bind_some, if_neg (by omega), if_neg (by omega), w64 (by omega) (by omega), h2 k (by omega)]
  rfl
theorem rep_may {d : Dd} {S f : Int} {N : Nat} (h : Rep d S f) (hb : (S.natAbs : Int) < 2 ^ N) (hN : N ≤ 60000) (f0 : -1000000 ≤ f) (f1 : f ≤ 0) : dy_May.f d.1 d.2.1 d.2.2 = some true := by
  have z := Z.of_rep h hb hN f0 f1
  have hl := z.len
  obtain ⟨d', hd', hv⟩ := z.dv f0
  rw [dmay_eq _ _ _ z.u (by omega)]
  rw [h.un hd', dv_mayd hv]
/-- At a lower power. -/
theorem Z.down {n : Bool} {l : List Int} {e f S : Int} {N : Nat} (h : Z n l e f S N) (j : Nat) : Z n l e (f - j) (S * 2 ^ j) (N + j) := by
  have lo := h.lo
  refine ⟨h.u, h.len, by omega, h.hi, ?_, ?_⟩
  · rw [h.eq, Int.mul_assoc, ← p2_add, show (e - f).toNat + j = (e - (f - j)).toNat by omega]
  · rw [abs_mulp, p2_add]
    exact mul_lt_p j h.bd
theorem few_eq (n : Bool) (l : List Int) (e : Int) : peloruslaw03_Few.f n l e = some (decide (l.length ≤ 20 ∧ -1000 ≤ e ∧ e ≤ 1000)) := by
  unfold peloruslaw03_Few.f
  by_cases h1 : (l.length : Int) ≤ 20
  · rw [if_pos h1]
    by_cases h2 : e ≥ -1000
    · rw [if_pos h2]; congr 1; exact decide_eq_decide.2 ⟨fun h3 => ⟨by omega, by omega, by omega⟩, fun h3 => h3.2.2⟩
    · rw [if_neg h2, decide_eq_false (fun h3 => h2 h3.2.1)]
  · rw [if_neg h1, decide_eq_false (fun h3 => h1 (by omega))]
theorem few_z {n : Bool} {l : List Int} {e : Int} (h : U l) (hl : l.length ≤ 20) (e0 : -1000 ≤ e) (e1 : e ≤ 1000) : Z n l e (-1000) (sg n (val l) * 2 ^ (e + 1000).toNat) 2640 := by
  refine ⟨h, by omega, e0, by omega, by rw [show e - -1000 = e + 1000 by omega], ?_⟩
  rw [abs_mulp, sg_abs n (val_nonneg h)]
  have h1 := val_lt h
  have h2 := pw_mono hl
  rw [p2_limb 20] at h2
  have h3 := mul_lt_p (e + 1000).toNat (show val l < 2 ^ (32 * 20) by omega)
  rw [← p2_add] at h3
  exact Int.lt_of_lt_of_le h3 (p2_mono (by omega))
end Go.Proofs.YtkemnoejpbknhaaDoor.T

namespace Go.Proofs.YtkemnoejpbknhaaDoor.T
set_option linter.unusedVariables false
set_option linter.unusedSimpArgs false
open Go.RowKit Go.Proofs.YtkemnoejpbknhaaDoorW.PrintWords Go.Proofs.YtkemnoejpbknhaaDoorW.PrintMore Go.Proofs.YtkemnoejpbknhaaDoor.PA

theorem sv_bd {a : Nm} (ha : mayP a) : ((sv a).natAbs : Int) < 2 ^ 64 := by
  unfold sv
  split
  · rename_i h
    have := may_fin ha h
    rw [sg_abs _ (by omega), p64]
    omega
  · rw [p64]; decide
/-- Two limbs of 64 bits. -/
theorem limbs_val {m : Int} (m0 : 0 ≤ m) (m1 : m < 18446744073709551616) : U [m % 4294967296, m / 4294967296 % 4294967296] ∧ val [m % 4294967296, m / 4294967296 % 4294967296] = m := by
  refine ⟨by simp only [U, List.mem_cons, List.not_mem_nil, or_false, forall_eq_or_imp, forall_eq]; omega, ?_⟩
  simp only [val_cons, val_nil]
  omega
theorem nexact_ev {a : Nm} (ha : mayP a) (h2 : a.1 ≠ 2) : ∃ d, Rep d (sv a) a.2.2.2 ∧ ∃ K, ∀ k, K ≤ k → num_Exact.f k a.1 a.2.1 a.2.2.1 a.2.2.2 = some (d.1, d.2.1, d.2.2, true) := by
  have hm := may_g ha
  rcases ha with ⟨a0, a1, am, ae⟩ | ⟨a0, am0, am1, ae0, ae1⟩ | ⟨a0, _⟩
  · obtain ⟨K1, h1⟩ := make_ev a.2.1 [0 % 4294967296, 0 / 4294967296 % 4294967296] (limbs_val (by decide) (by decide)).1 (by simp)
    rw [(limbs_val (m := 0) (by decide) (by decide)).2] at h1
    have z : Z (nw 0).1 (nw 0).2 0 0 0 1 := ⟨nw_U _, by show (lim _).length ≤ _; rw [show lim ((0 : Int).natAbs : Int) = [] from limN_zero]; simp, by decide, by decide, by rw [nw_sg]; simp, by simp⟩
    obtain ⟨d, hd, K2, h2⟩ := mk_z z (by decide)
    have es : sg a.2.1 0 = 0 := by cases a.2.1 <;> rfl
    rw [es] at h1
    refine ⟨d, by rw [sv_zero a0, ae]; exact hd, K1 + K2 + 1, fun k hk => ?_⟩
    obtain ⟨k, rfl⟩ : ∃ m, k = m + 1 := ⟨k - 1, by omega⟩
    unfold num_Exact.f
    rw [hm, Option.bind_some, if_pos rfl, a0]
    simp only [num_Exact.j0]
    rw [if_neg (by decide), am, ae, h1 k (by omega), Option.bind_some, h2 k (by omega), Option.bind_some]
  · have lv := limbs_val (m := a.2.2.1) (by omega) am1
    obtain ⟨K1, h1⟩ := make_ev a.2.1 [a.2.2.1 % 4294967296, a.2.2.1 / 4294967296 % 4294967296] lv.1 (by simp)
    rw [lv.2] at h1
    have es : sv a = sg a.2.1 a.2.2.1 := by unfold sv; rw [if_pos a0]
    have bd : ((sg a.2.1 a.2.2.1).natAbs : Int) < 2 ^ 64 := by rw [sg_abs _ (by omega), p64]; omega
    have ll := len_lim (v := ((sg a.2.1 a.2.2.1).natAbs : Int)) (by omega) 64 bd
    obtain ⟨d, hd⟩ := Dv.ex (sg (nw (sg a.2.1 a.2.2.1)).1 (val (nw (sg a.2.1 a.2.2.1)).2)) a.2.2.2
    obtain ⟨K2, h2⟩ := mk_ev (nw (sg a.2.1 a.2.2.1)).1 (nw (sg a.2.1 a.2.2.1)).2 a.2.2.2 (nw_U _) (by show (lim _).length ≤ _; omega) hd
    rw [nw_sg] at hd
    refine ⟨d, ?_, K1 + K2 + 1, fun k hk => ?_⟩
    · rw [es]
      rcases hd with ⟨h0, hd⟩ | ⟨o, t, o0, o1, s0, hs, hd⟩
      · exact .inl ⟨h0, hd⟩
      · have b1 := mul_le_p t (show 1 ≤ o by omega)
        have ht := p2_lt (show (2 : Int) ^ t < 2 ^ 64 by omega)
        rw [if_pos ⟨by omega, by omega, by omega⟩] at hd
        exact .inr ⟨o, t, o0, o1, s0, hs, hd⟩
    · obtain ⟨k, rfl⟩ : ∃ m, k = m + 1 := ⟨k - 1, by omega⟩
      unfold num_Exact.f
      rw [hm, Option.bind_some, if_pos rfl, a0]
      simp only [num_Exact.j0]
      rw [if_neg (by decide), h1 k (by omega), Option.bind_some, h2 k (by omega), Option.bind_some]
  · exact absurd a0 h2
/-- As it comes in elsewhere: at a power below it. -/
theorem nexact_z {a : Nm} (ha : mayP a) (h2 : a.1 ≠ 2) {g : Int} (g0 : -20000 ≤ g) (g1 : g ≤ 0) (hg : g ≤ a.2.2.2) (he : a.2.2.2 ≤ 10000) :
    ∃ d, Z d.1 d.2.1 d.2.2 g (sv a * 2 ^ (a.2.2.2 - g).toNat) (64 + (a.2.2.2 - g).toNat) ∧ Rep d (sv a) a.2.2.2 ∧ ∃ K, ∀ k, K ≤ k → num_Exact.f k a.1 a.2.1 a.2.2.1 a.2.2.2 = some (d.1, d.2.1, d.2.2, true) := by
  obtain ⟨d, hd, hK⟩ := nexact_ev ha h2
  have hb := sv_bd ha
  have ee : a.2.2.2 = g + ((a.2.2.2 - g).toNat : Nat) := by omega
  have h3 : Rep d (sv a) (g + ((a.2.2.2 - g).toNat : Nat)) := by rw [← ee]; exact hd
  refine ⟨d, Z.of_rep h3.scale ?_ (by omega) (by omega) g1, hd, hK⟩
  rw [abs_mulp, p2_add]
  exact mul_lt_p _ hb
end Go.Proofs.YtkemnoejpbknhaaDoor.T
