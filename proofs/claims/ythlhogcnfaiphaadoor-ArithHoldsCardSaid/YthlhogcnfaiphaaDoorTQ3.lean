/- What is rounded down is not above, what is rounded up not below, and there is no other number between both. Plain. The least and the greatest of some numbers of layer 5, as the code and the document have them. The document's numbers of layer 3, and what it rounds them to. What the code's numbers of layer 3 come to: exact ones. The sum, the product, the order, the floor. A number of layer 5, exactly, as a number of layer 3. -/
import Derived.Test.YthlhogcnfaiphaaDoorPAx2
import Derived.Test.YthlhogcnfaiphaaDoorTQ2
namespace Go.Proofs.YthlhogcnfaiphaaDoor.T
set_option linter.unusedVariables false
set_option linter.unusedSimpArgs false
open Go.RowKit Go.Proofs.YthlhogcnfaiphaaDoorW.PrintWords Go.Proofs.YthlhogcnfaiphaaDoorW.PrintMore

/-- Whichever power below both is taken, the order is the same. -/
theorem base_le {x y A B g h : Int} (gA : g ≤ A) (gB : g ≤ B) (hA : h ≤ A) (hB : h ≤ B) (H : x * 2 ^ (A - h).toNat ≤ y * 2 ^ (B - h).toNat) : x * 2 ^ (A - g).toNat ≤ y * 2 ^ (B - g).toNat := by
  by_cases hc : g ≤ h
  · have := mul_le_p (h - g).toNat H
    rw [Int.mul_assoc, Int.mul_assoc, ← p2_add, ← p2_add, show (A - h).toNat + (h - g).toNat = (A - g).toNat by omega, show (B - h).toNat + (h - g).toNat = (B - g).toNat by omega] at this
    exact this
  · refine le_of_p (g - h).toNat ?_
    rw [Int.mul_assoc, Int.mul_assoc, ← p2_add, ← p2_add, show (A - g).toNat + (g - h).toNat = (A - h).toNat by omega, show (B - g).toNat + (g - h).toNat = (B - h).toNat by omega]
    exact H
theorem base_lt {x y A B g h : Int} (gA : g ≤ A) (gB : g ≤ B) (hA : h ≤ A) (hB : h ≤ B) (H : x * 2 ^ (A - h).toNat < y * 2 ^ (B - h).toNat) : x * 2 ^ (A - g).toNat < y * 2 ^ (B - g).toNat := by
  apply Int.lt_of_not_ge
  intro h2
  have := base_le hB hA gB gA h2
  omega
/-- A number above nought, rounded to either side. -/
theorem rnd_tight {v e g : Int} (hv : 0 < v) (e0 : -500000 ≤ e) (e1 : e + bl v ≤ 500000) (hg : g ≤ e - 64) : ∃ q E q' E' : Int,
    (∀ neg, rnd neg v e false = (1, neg, q, E)) ∧ (∀ neg, rnd neg v e true = (1, neg, q', E')) ∧
    9223372036854775808 ≤ q ∧ q < 18446744073709551616 ∧ 9223372036854775808 ≤ q' ∧ q' < 18446744073709551616 ∧ g ≤ E ∧ g ≤ E' ∧ E ≤ e + bl v ∧ E' ≤ e + bl v ∧ -600000 ≤ E ∧ -600000 ≤ E' ∧
    ((q = q' ∧ E = E' ∧ q * 2 ^ (E - g).toNat = v * 2 ^ (e - g).toNat) ∨
     (q * 2 ^ (E - g).toNat < v * 2 ^ (e - g).toNat ∧ v * 2 ^ (e - g).toNat < q' * 2 ^ (E' - g).toNat ∧ ∀ n, mg (1, n, q', E') = mg (1, n, q, E) + 1)) := by
  obtain ⟨q, E, c, h⟩ := fit_ex e hv
  have hf := fun neg away => rnd_fit h neg away
  obtain ⟨q0, q1, s, t, he, h1, h2, hc⟩ := h
  have hb := bl_in q0 q1 h1 h2
  rw [blp hv] at hb
  have bp := bl_pos hv
  have es : s = (e - (e - s)).toNat := by omega
  have et : t = (E - (e - s)).toNat := by omega
  have L1 : q * 2 ^ (E - g).toNat ≤ v * 2 ^ (e - g).toNat := base_le (h := e - s) (by omega) (by omega) (by omega) (by omega) (by rw [← es, ← et]; exact h1)
  have L2 : v * 2 ^ (e - g).toNat < (q + 1) * 2 ^ (E - g).toNat := base_lt (h := e - s) (by omega) (by omega) (by omega) (by omega) (by rw [← es, ← et]; exact h2)
  by_cases hcc : c = true
  · have hne := hc.1 hcc
    have L3 : q * 2 ^ (E - g).toNat < v * 2 ^ (e - g).toNat := base_lt (h := e - s) (by omega) (by omega) (by omega) (by omega) (by rw [← es, ← et]; omega)
    by_cases ho : q + 1 = 18446744073709551616
    · refine ⟨q, E, 9223372036854775808, E + 1, fun neg => ?_, fun neg => ?_, q0, q1, by omega, by omega, by omega, by omega, by omega, by omega, by omega, by omega, .inr ⟨L3, ?_, fun n => ?_⟩⟩
      · rw [hf, grw, if_neg (by simp), bnd_in (by omega) (by omega)]
      · rw [hf, grw, if_pos ⟨hcc, rfl⟩, if_pos ho, bnd_in (by omega) (by omega)]
      · rw [ho, show (18446744073709551616 : Int) = 9223372036854775808 * 2 by decide, Int.mul_assoc, ← p2_succ, show (E - g).toNat + 1 = (E + 1 - g).toNat by omega] at L2
        exact L2
      · unfold mg
        simp only
        rw [if_neg (by decide), if_neg (by decide), if_neg (by decide), if_neg (by decide)]
        omega
    · refine ⟨q, E, q + 1, E, fun neg => ?_, fun neg => ?_, q0, q1, by omega, by omega, by omega, by omega, by omega, by omega, by omega, by omega, .inr ⟨L3, L2, fun n => ?_⟩⟩
      · rw [hf, grw, if_neg (by simp), bnd_in (by omega) (by omega)]
      · rw [hf, grw, if_pos ⟨hcc, rfl⟩, if_neg ho, bnd_in (by omega) (by omega)]
      · unfold mg
        simp only
        rw [if_neg (by decide), if_neg (by decide), if_neg (by decide), if_neg (by decide)]
        omega
  · have heq : q * 2 ^ t = v * 2 ^ s := by
      apply Classical.byContradiction
      intro h3
      exact hcc (hc.2 h3)
    refine ⟨q, E, q, E, fun neg => ?_, fun neg => ?_, q0, q1, q0, q1, by omega, by omega, by omega, by omega, by omega, by omega, .inl ⟨rfl, rfl, ?_⟩⟩
    · rw [hf, grw, if_neg (fun x => hcc x.1), bnd_in (by omega) (by omega)]
    · rw [hf, grw, if_neg (fun x => hcc x.1), bnd_in (by omega) (by omega)]
    · have L4 : v * 2 ^ (e - g).toNat ≤ q * 2 ^ (E - g).toNat := base_le (h := e - s) (by omega) (by omega) (by omega) (by omega) (by rw [← es, ← et]; omega)
      omega

/-- An exact number, rounded to either side: both are finite, and hold it between them; where they are not one, the upper one is the next one. -/
theorem rnz_tight {S f g X : Int} (f0 : -500000 ≤ f) (f1 : f + bl S.natAbs ≤ X) (X0 : 0 ≤ X) (X1 : X ≤ 500000) (hg : g ≤ f - 64) (hg0 : g ≤ 0) :
    (rnz S f false).1 ≠ 2 ∧ (rnz S f true).1 ≠ 2 ∧ g ≤ (rnz S f false).2.2.2 ∧ g ≤ (rnz S f true).2.2.2 ∧ (rnz S f false).2.2.2 ≤ X ∧ (rnz S f true).2.2.2 ≤ X ∧
    ((rnz S f false = rnz S f true ∧ sv (rnz S f false) * 2 ^ ((rnz S f false).2.2.2 - g).toNat = S * 2 ^ (f - g).toNat) ∨
     (sv (rnz S f false) * 2 ^ ((rnz S f false).2.2.2 - g).toNat < S * 2 ^ (f - g).toNat ∧ S * 2 ^ (f - g).toNat < sv (rnz S f true) * 2 ^ ((rnz S f true).2.2.2 - g).toNat ∧ kv (rnz S f true) = kv (rnz S f false) + 1)) := by
  by_cases hz : S = 0
  · subst hz
    have e : ∀ up, rnz 0 f up = (0, false, 0, 0) := fun up => by unfold rnz; rw [if_pos rfl]
    simp only [e]
    refine ⟨by decide, by decide, hg0, hg0, X0, X0, .inl ⟨?_, ?_⟩⟩
    · first | trivial | rfl
    · unfold sv
      rw [if_neg (by decide), Int.zero_mul, Int.zero_mul]
  · have va : 0 < (S.natAbs : Int) := by omega
    obtain ⟨q, E, q', E', r1, r2, q0, q1, q0', q1', gE, gE', E1, E1', E0, E0', hcase⟩ := rnd_tight (g := g) va f0 (by omega) hg
    have e : ∀ up, rnz S f up = rnd (decide (S < 0)) S.natAbs f (up != decide (S < 0)) := fun up => by unfold rnz; rw [if_neg hz]
    have svd : ∀ n q E, sv (1, n, q, E) = sg n q := fun n q E => by unfold sv; rw [if_pos rfl]
    by_cases hn : S < 0
    · have hS : S = -(S.natAbs : Int) := by omega
      have e1 : rnz S f false = (1, true, q', E') := by rw [e, decide_eq_true hn]; exact r2 true
      have e2 : rnz S f true = (1, true, q, E) := by rw [e, decide_eq_true hn]; exact r1 true
      rw [e1, e2, svd, svd]
      refine ⟨by simp, by simp, gE', gE, by simp only; omega, by simp only; omega, ?_⟩
      have k1 : ∀ q E, kv (1, true, q, E) = -mg (1, true, q, E) := fun q E => by unfold kv sg; rw [if_pos rfl]
      simp only [sg, if_true, Int.neg_mul]
      rw [k1, k1]
      rcases hcase with ⟨rfl, rfl, h⟩ | ⟨h1, h2, h3⟩
      · refine .inl ⟨rfl, ?_⟩
        rw [h]
        conv => rhs; rw [hS]
        rw [Int.neg_mul]
      · have h3 := h3 true
        refine .inr ⟨?_, ?_, by omega⟩
        · conv => rhs; rw [hS]
          rw [Int.neg_mul]; omega
        · conv => lhs; rw [hS]
          rw [Int.neg_mul]; omega
    · have hS : (S.natAbs : Int) = S := by omega
      have e1 : rnz S f false = (1, false, q, E) := by rw [e, decide_eq_false hn]; exact r1 false
      have e2 : rnz S f true = (1, false, q', E') := by rw [e, decide_eq_false hn]; exact r2 false
      rw [e1, e2, svd, svd]
      refine ⟨by simp, by simp, gE, gE', by simp only; omega, by simp only; omega, ?_⟩
      have k1 : ∀ q E, kv (1, false, q, E) = mg (1, false, q, E) := fun q E => by unfold kv sg; rw [if_neg (by simp)]
      simp only [sg, Bool.false_eq_true, if_false]
      rw [k1, k1]
      rw [hS] at hcase
      rcases hcase with ⟨rfl, rfl, h⟩ | ⟨h1, h2, h3⟩
      · exact .inl ⟨rfl, h⟩
      · exact .inr ⟨h1, h2, h3 false⟩
end Go.Proofs.YthlhogcnfaiphaaDoor.T

namespace Go.Proofs.YthlhogcnfaiphaaDoor.T
set_option linter.unusedVariables false
set_option linter.unusedSimpArgs false
open Go.RowKit Go.Proofs.YthlhogcnfaiphaaDoorW.PrintWords Go.Proofs.YthlhogcnfaiphaaDoorW.PrintMore Go.Proofs.YthlhogcnfaiphaaDoor.PA

end Go.Proofs.YthlhogcnfaiphaaDoor.T

namespace Go.Proofs.YthlhogcnfaiphaaDoor.T
set_option linter.unusedVariables false
set_option linter.unusedSimpArgs false
open Go.RowKit Go.Proofs.YthlhogcnfaiphaaDoorW.PrintWords Go.Proofs.YthlhogcnfaiphaaDoorW.PrintMore Go.Proofs.YthlhogcnfaiphaaDoor.PA


end Go.Proofs.YthlhogcnfaiphaaDoor.T

namespace Go.Proofs.YthlhogcnfaiphaaDoor.T
set_option linter.unusedVariables false
set_option linter.unusedSimpArgs false
open Go.RowKit Go.Proofs.YthlhogcnfaiphaaDoorW.PrintWords Go.Proofs.YthlhogcnfaiphaaDoorW.PrintMore Go.Proofs.YthlhogcnfaiphaaDoor.PA

/-- A number as it comes in, of limbs and a power of two: it is S * 2^f, S of no more than N bits. -/
structure Z (n : Bool) (l : List Int) (e f S : Int) (N : Nat) : Prop where
  u : U l
  len : l.length ≤ 2000
  lo : f ≤ e
  hi : e ≤ 1000000
  eq : S = sg n (val l) * 2 ^ (e - f).toNat
  bd : (S.natAbs : Int) < 2 ^ N
theorem Rep.un {d d' : Dd} {s f : Int} (h : Rep d s f) (h' : Rep d' s f) : d = d' := by
  rcases h with ⟨h0, h⟩ | ⟨o, t, o0, o1, s0, hs, h⟩ <;> rcases h' with ⟨h0', h'⟩ | ⟨o', t', o0', o1', s0', hs', h'⟩
  · rw [h, h']
  · exact absurd h0 s0'
  · exact absurd h0' s0
  · obtain ⟨rfl, rfl⟩ := odd_un o1 o1' (hs.symm.trans hs')
    rw [h, h']
theorem sg_mulp (n : Bool) (x y : Int) : sg n (x * y) = sg n x * y := by
  unfold sg; split
  · rw [Int.neg_mul]
  · rfl
theorem abs_mulp (s : Int) (j : Nat) : ((s * 2 ^ j).natAbs : Int) = s.natAbs * 2 ^ j := by
  have := p2_pos j
  rw [Int.natAbs_mul, Int.natCast_mul, show ((((2 : Int) ^ j).natAbs : Nat) : Int) = 2 ^ j from Int.natAbs_of_nonneg (by omega)]
theorem abs_le_mulp (s : Int) (j : Nat) : (s.natAbs : Int) ≤ ((s * 2 ^ j).natAbs : Int) := by
  rw [abs_mulp]
  have := Int.mul_le_mul_of_nonneg_left (show 1 ≤ (2 : Int) ^ j by have := p2_pos j; omega) (show 0 ≤ (s.natAbs : Int) by omega)
  omega
theorem Rep.val {d : Dd} {S f : Int} (h : Rep d S f) : (S = 0 ∧ d = (false, [], 0)) ∨ ∃ t : Nat, d.2.2 = f + t ∧ S = sg d.1 (val d.2.1) * 2 ^ t ∧ ∃ o : Int, 0 < o ∧ o % 2 = 1 ∧ d.2.1 = lim o ∧ (S.natAbs : Int) = o * 2 ^ t := by
  rcases h with h | ⟨o, t, o0, o1, s0, hs, rfl⟩
  · exact .inl h
  · refine .inr ⟨t, rfl, ?_, o, o0, o1, rfl, hs⟩
    simp only
    rw [val_lim (by omega), ← sg_mulp, ← hs, sg_of]
theorem Z.of_rep {d : Dd} {S f : Int} {N : Nat} (h : Rep d S f) (hb : (S.natAbs : Int) < 2 ^ N) (hN : N ≤ 60000) (f0 : -1000000 ≤ f) (f1 : f ≤ 0) : Z d.1 d.2.1 d.2.2 f S N := by
  rcases h.val with ⟨rfl, rfl⟩ | ⟨t, hE, hS, o, o0, o1, ho, hs⟩
  · exact ⟨U_nil, by simp, f1, by simp, by simp [sg], hb⟩
  · have b1 := mul_le_p t (show 1 ≤ o by omega)
    have b2 := Int.mul_le_mul_of_nonneg_left (show 1 ≤ (2 : Int) ^ t by have := p2_pos t; omega) (show 0 ≤ o by omega)
    have ht := p2_lt (show (2 : Int) ^ t < 2 ^ N by omega)
    have hl := len_lim (v := o) (by omega) N (by omega)
    refine ⟨by rw [ho]; exact U_lim (by omega), by rw [ho]; omega, by omega, by omega, ?_, hb⟩
    rw [show (d.2.2 - f).toNat = t by omega]
    exact hS
theorem Z.dv {n : Bool} {l : List Int} {e f S : Int} {N : Nat} (h : Z n l e f S N) (f0 : -1000000 ≤ f) : ∃ d, Rep d S f ∧ Dv d (sg n (val l)) e := by
  have hv := val_nonneg h.u
  have rs : ∀ {d : Dd}, Rep d (sg n (val l)) e → Rep d S f := fun {d} hr => by
    have hj : e = f + ((e - f).toNat : Nat) := by have := h.lo; omega
    have h2 : Rep d (sg n (val l)) (f + ((e - f).toNat : Nat)) := by rw [← hj]; exact hr
    have := h2.scale
    rw [← h.eq] at this
    exact this
  by_cases hz : val l = 0
  · have z : sg n (val l) = 0 := by rw [hz]; cases n <;> rfl
    exact ⟨(false, [], 0), rs (.inl ⟨z, rfl⟩), .inl ⟨z, rfl⟩⟩
  · obtain ⟨o, t, o0, o1, ho⟩ := odd_ex (v := val l) (by omega)
    have tl := t_le h.u o0 ho
    have ll := h.len
    have hh := h.hi
    have lo := h.lo
    have s0 := sg_ne n (show 0 < val l by omega)
    have sa := sg_abs n hv
    refine ⟨(decide (sg n (val l) < 0), lim o, e + t), rs (.inr ⟨o, t, o0, o1, s0, by rw [sa, ho], rfl⟩), .inr ⟨o, t, o0, o1, s0, by rw [sa, ho], ?_⟩⟩
    rw [if_pos ⟨by omega, by omega, by omega⟩]
theorem Z.nw {s e f : Int} {N : Nat} (lo : f ≤ e) (hi : e ≤ 1000000) (hN : N ≤ 60000) (hb : ((s * 2 ^ (e - f).toNat).natAbs : Int) < 2 ^ N) : Z (nw s).1 (nw s).2 e f (s * 2 ^ (e - f).toNat) N := by
  have h1 := abs_le_mulp s (e - f).toNat
  have hl := len_lim (v := (s.natAbs : Int)) (by omega) N (by omega)
  exact ⟨nw_U _, by show (lim s.natAbs).length ≤ 2000; omega, lo, hi, by rw [nw_sg], hb⟩
theorem fair_z {n : Bool} {l : List Int} {e f S : Int} {N : Nat} (h : Z n l e f S N) (f0 : -1000000 ≤ f) : ∃ d, Rep d S f ∧ ∃ K, ∀ k, K ≤ k → dy_fair.f k n l e = some d := by
  obtain ⟨d, hd, hv⟩ := h.dv f0
  have := h.len
  exact ⟨d, hd, dfair_ev n l e h.u (by omega) hv⟩
theorem mk_z {n : Bool} {l : List Int} {e f S : Int} {N : Nat} (h : Z n l e f S N) (f0 : -1000000 ≤ f) : ∃ d, Rep d S f ∧ ∃ K, ∀ k, K ≤ k → dy_Make.f k n l e = some d := by
  obtain ⟨d, hd, hv⟩ := h.dv f0
  have := h.len
  exact ⟨d, hd, mk_ev n l e h.u (by omega) hv⟩
theorem neg_z {n : Bool} {l : List Int} {e f S : Int} {N : Nat} (h : Z n l e f S N) (hN : N ≤ 60000) (f0 : -1000000 ≤ f) : ∃ d, Rep d (-S) f ∧ ∃ K, ∀ k, K ≤ k → dy_Neg.f k n l e = some d := by
  have hl := h.len
  obtain ⟨K1, h1⟩ := neg_ev n l h.u (by omega)
  have eS : -S = -sg n (val l) * 2 ^ (e - f).toNat := by rw [h.eq, Int.neg_mul]
  have z : Z (nw (-sg n (val l))).1 (nw (-sg n (val l))).2 e f (-S) N := by
    rw [eS]
    exact Z.nw h.lo h.hi hN (by rw [← eS, Int.natAbs_neg]; exact h.bd)
  obtain ⟨d, hd, K2, h2⟩ := mk_z z f0
  refine ⟨d, hd, K1 + K2, fun k hk => ?_⟩
  unfold dy_Neg.f
  rw [h1 k (by omega), Option.bind_some, h2 k (by omega)]
  rfl
/-- The sum of two that may be. -/
theorem add_z {p q : Dd} {S T f : Int} {N : Nat} (hp : Rep p S f) (hq : Rep q T f) (hS : (S.natAbs : Int) < 2 ^ N) (hT : (T.natAbs : Int) < 2 ^ N) (hN : N ≤ 50000) (f0 : -1000000 ≤ f) (f1 : f ≤ 0) :
    ∃ d, Rep d (S + T) f ∧ ∃ K, ∀ k, K ≤ k → dy_add.f k p.1 p.2.1 p.2.2 q.1 q.2.1 q.2.2 = some d := by
  have key : ∀ {p q : Dd} {S T : Int} {t t' : Nat} {o o' : Int}, p.2.2 = f + t → S = sg p.1 (val p.2.1) * 2 ^ t → (0 < o ∧ o % 2 = 1 ∧ p.2.1 = lim o ∧ (S.natAbs : Int) = o * 2 ^ t) → q.2.2 = f + t' → T = sg q.1 (val q.2.1) * 2 ^ t' →
      (0 < o' ∧ o' % 2 = 1 ∧ q.2.1 = lim o' ∧ (T.natAbs : Int) = o' * 2 ^ t') → (S.natAbs : Int) < 2 ^ N → (T.natAbs : Int) < 2 ^ N → t ≤ t' →
      ∃ d, Rep d (S + T) f ∧ ∃ K, ∀ k, K ≤ k → ((nat_Shl.f k q.2.1 (wrap64 (q.2.2 - p.2.2))).bind fun t => ((whole_Add.f k p.1 p.2.1 q.1 t).bind fun b => ((dy_Make.f k b.1 b.2 p.2.2).bind fun c => (some (c.1, c.2.1, c.2.2))))) = some d := by
    intro p q S T t t' o o' hE eS ho hE' eT ho' hS hT htt
    obtain ⟨j, rfl⟩ := Nat.le.dest htt
    obtain ⟨o0, o1, ho, hs⟩ := ho
    obtain ⟨o0', o1', ho', hs'⟩ := ho'
    have b1 := mul_le_p (t + j) (show 1 ≤ o' by omega)
    have ht := p2_lt (show (2 : Int) ^ (t + j) < 2 ^ N by omega)
    have zp := Z.of_rep (d := p) (.inr ⟨o, t, o0, o1, by intro h0; rw [h0] at hs; have := Int.mul_pos o0 (p2_pos t); simp at hs; omega, hs, by
      have : decide (S < 0) = p.1 := by
        rw [eS, ho, val_lim (by omega), ← sg_mulp]
        exact sg_lt _ (Int.mul_pos o0 (p2_pos t))
      rw [this, ← ho, ← hE]⟩) hS (by omega) f0 f1
    have zq := Z.of_rep (d := q) (.inr ⟨o', t + j, o0', o1', by intro h0; rw [h0] at hs'; have := Int.mul_pos o0' (p2_pos (t + j)); simp at hs'; omega, hs', by
      have : decide (T < 0) = q.1 := by
        rw [eT, ho', val_lim (by omega), ← sg_mulp]
        exact sg_lt _ (Int.mul_pos o0' (p2_pos (t + j)))
      rw [this, ← ho', ← hE']⟩) hT (by omega) f0 f1
    have lp := zp.len
    have lq := zq.len
    obtain ⟨K1, h1⟩ := shl_ev q.2.1 j zq.u (by omega)
    rw [shlv_eq (by omega) (by omega), Int.toNat_natCast] at h1
    have hvq := val_nonneg zq.u
    have v0 : 0 ≤ val q.2.1 * 2 ^ j := Int.mul_nonneg hvq (by have := p2_pos j; omega)
    have ll := len_lim v0 N (by
      have hq2 : val q.2.1 = o' := by rw [ho', val_lim (by omega)]
      rw [hq2]
      have h3 : o' * 2 ^ (t + j) = o' * 2 ^ j * 2 ^ t := by rw [Nat.add_comm, p2_add, Int.mul_assoc]
      have h4 := Int.mul_le_mul_of_nonneg_left (show 1 ≤ (2 : Int) ^ t by have := p2_pos t; omega) (show 0 ≤ o' * 2 ^ j by rw [hq2] at v0; exact v0)
      omega)
    obtain ⟨K2, h2⟩ := addw_ev p.1 q.1 p.2.1 (lim (val q.2.1 * 2 ^ j)) zp.u (U_lim v0) (by omega) (by omega)
    rw [val_lim v0, sg_mulp] at h2
    have eST : S + T = (sg p.1 (val p.2.1) + sg q.1 (val q.2.1) * 2 ^ j) * 2 ^ (p.2.2 - f).toNat := by
      rw [show (p.2.2 - f).toNat = t by omega, Int.add_mul, Int.mul_assoc, ← p2_add, Nat.add_comm j t, ← eS, ← eT]
    have pn := p2_succ N
    have zr : Z (nw (sg p.1 (val p.2.1) + sg q.1 (val q.2.1) * 2 ^ j)).1 (nw (sg p.1 (val p.2.1) + sg q.1 (val q.2.1) * 2 ^ j)).2 p.2.2 f (S + T) (N + 1) := by
      rw [eST]
      exact Z.nw zp.lo zp.hi (by omega) (by rw [← eST]; omega)
    obtain ⟨d, hd, K3, h3⟩ := mk_z zr f0
    refine ⟨d, hd, K1 + K2 + K3, fun k hk => ?_⟩
    rw [show wrap64 (q.2.2 - p.2.2) = (j : Int) by rw [w64 (by omega) (by omega)]; omega, h1 k (by omega), Option.bind_some, h2 k (by omega), Option.bind_some, h3 k (by omega)]
    rfl
  rcases hp.val with ⟨rfl, rfl⟩ | ⟨t, hE, eS, o, ho⟩
  · refine ⟨q, by rw [Int.zero_add]; exact hq, 1, fun k hk => ?_⟩
    unfold dy_add.f
    rfl
  have n1 := lim_nil_iff (n := o) (by have := ho.1; omega)
  rcases hq.val with ⟨rfl, rfl⟩ | ⟨t', hE', eT, o', ho'⟩
  · refine ⟨p, by rw [Int.add_zero]; exact hp, 1, fun k hk => ?_⟩
    unfold dy_add.f
    rw [if_neg (by rw [ho.2.2.1]; have := ho.1; omega)]
    rfl
  have n2 := lim_nil_iff (n := o') (by have := ho'.1; omega)
  by_cases hc : t ≤ t'
  · obtain ⟨d, hd, K, hK⟩ := key hE eS ho hE' eT ho' hS hT hc
    refine ⟨d, hd, K, fun k hk => ?_⟩
    unfold dy_add.f
    rw [if_neg (by rw [ho.2.2.1]; have := ho.1; omega), if_neg (by rw [ho'.2.2.1]; have := ho'.1; omega), if_neg (by omega)]
    exact hK k hk
  · obtain ⟨d, hd, K, hK⟩ := key hE' eT ho' hE eS ho hT hS (by omega)
    refine ⟨d, by rw [Int.add_comm]; exact hd, K, fun k hk => ?_⟩
    unfold dy_add.f
    rw [if_neg (by rw [ho.2.2.1]; have := ho.1; omega), if_neg (by rw [ho'.2.2.1]; have := ho'.1; omega), if_pos (by omega)]
    exact hK k hk
theorem abs_add_lt {S T : Int} {N : Nat} (hS : (S.natAbs : Int) < 2 ^ N) (hT : (T.natAbs : Int) < 2 ^ N) : ((S + T).natAbs : Int) < 2 ^ (N + 1) := by
  have := p2_succ N
  omega
theorem abs_mono {S : Int} {N M : Nat} (h : (S.natAbs : Int) < 2 ^ N) (hm : N ≤ M) : (S.natAbs : Int) < 2 ^ M := Int.lt_of_lt_of_le h (p2_mono hm)
theorem abs_neg {S : Int} {N : Nat} (h : (S.natAbs : Int) < 2 ^ N) : ((-S).natAbs : Int) < 2 ^ N := by omega
theorem abs_mul_lt {S T : Int} {N M : Nat} (hS : (S.natAbs : Int) < 2 ^ N) (hT : (T.natAbs : Int) < 2 ^ M) : ((S * T).natAbs : Int) < 2 ^ (N + M) := by
  rw [Int.natAbs_mul, Int.natCast_mul, p2_add]
  have h1 := Int.mul_le_mul_of_nonneg_right (show (S.natAbs : Int) ≤ 2 ^ N by omega) (show 0 ≤ (T.natAbs : Int) by omega)
  have h2 := Int.mul_lt_mul_of_pos_left hT (p2_pos N)
  omega
/-- The sum of a list, from some sum on. -/
theorem addl_z (l : List S31) (f : Int) (N : Nat) (hN : N ≤ 40000) (hl : l.length ≤ 1000) (f0 : -1000000 ≤ f) (f1 : f ≤ 0) (v : S31 → Int) (hz : ∀ x ∈ l, Z x.f0.f0 x.f0.f1 x.f1 f (v x) N) (m : Nat) :
    ∀ (i : Nat) (p : Dd) (S : Int), m + i = l.length → Rep p S f → (S.natAbs : Int) < 2 ^ (N + i) →
    ∃ d, Rep d (S + ((l.drop i).map v).sum) f ∧ ∃ K, ∀ k, K ≤ k → dy_Add.l0 k l (l.length : Int) (i : Int) p.1 p.2.1 p.2.2 = some d := by
  induction m with
  | zero =>
    intro i p S hi hp hS
    rw [List.drop_of_length_le (by omega)]
    obtain ⟨d, hd, K, hK⟩ := mk_z (Z.of_rep hp hS (by omega) f0 f1) f0
    refine ⟨d, by simpa using hd, K + 1, fun k hk => ?_⟩
    obtain ⟨k, rfl⟩ : ∃ m, k = m + 1 := ⟨k - 1, by omega⟩
    simp only [dy_Add.l0]
    rw [if_neg (by omega)]
    unfold dy_own.f
    rw [hK k (by omega)]
    rfl
  | succ m ih =>
    intro i p S hi hp hS
    have hli : i < l.length := by omega
    have hm : l[i] ∈ l := List.getElem_mem hli
    have hzi := hz _ hm
    obtain ⟨q, hq, K1, h1⟩ := fair_z hzi f0
    obtain ⟨d, hd, K2, h2⟩ := add_z hp hq hS (abs_mono hzi.bd (show N ≤ N + i by omega)) (by omega) f0 f1
    obtain ⟨r, hr, K3, h3⟩ := ih (i + 1) d (S + v l[i]) (by omega) hd (abs_add_lt hS (abs_mono hzi.bd (show N ≤ N + i by omega)))
    refine ⟨r, ?_, K1 + K2 + K3 + 1, fun k hk => ?_⟩
    · rw [List.drop_eq_getElem_cons hli, List.map_cons, List.sum_cons, ← Int.add_assoc]
      exact hr
    · obtain ⟨k, rfl⟩ : ∃ m, k = m + 1 := ⟨k - 1, by omega⟩
      have hrd : rd_T31 l (i : Int) = l[i] := by
        unfold rd_T31
        rw [Int.toNat_natCast, List.getD_eq_getElem?_getD, List.getElem?_eq_getElem hli]; rfl
      simp only [dy_Add.l0]
      rw [if_pos (by omega), if_pos (by omega), if_pos (by omega), hrd, h1 k (by omega), Option.bind_some, h2 k (by omega), Option.bind_some, w64_succ (by omega), h3 k (by omega)]
theorem addn_z (l : List S31) (f : Int) (N : Nat) (hN : N ≤ 40000) (hl : l.length ≤ 1000) (f0 : -1000000 ≤ f) (f1 : f ≤ 0) (v : S31 → Int) (hz : ∀ x ∈ l, Z x.f0.f0 x.f0.f1 x.f1 f (v x) N) :
    ∃ d, Rep d ((l.map v).sum) f ∧ ∃ K, ∀ k, K ≤ k → dy_Add.f k l = some d := by
  obtain ⟨d, hd, K, hK⟩ := addl_z l f N hN hl f0 f1 v hz l.length 0 (false, [], 0) 0 (by omega) (.inl ⟨rfl, rfl⟩) (by have := p2_pos (N + 0); simpa using this)
  exact ⟨d, by simpa using hd, K, fun k hk => by unfold dy_Add.f; exact hK k hk⟩
/-- A number's value at a power, as a function of it. -/
def zval (f : Int) (x : S31) : Int := sg x.f0.f0 (val x.f0.f1) * 2 ^ (x.f1 - f).toNat
theorem Z.at_ {n : Bool} {l : List Int} {e f S : Int} {N : Nat} (h : Z n l e f S N) : zval f ⟨⟨n, l⟩, e⟩ = S := h.eq.symm
theorem Z.self {n : Bool} {l : List Int} {e f S : Int} {N : Nat} (h : Z n l e f S N) : Z n l e f (zval f ⟨⟨n, l⟩, e⟩) N := by rw [h.at_]; exact h
theorem add2_z {n n' : Bool} {l l' : List Int} {e e' f S T : Int} {N : Nat} (h : Z n l e f S N) (h' : Z n' l' e' f T N) (hN : N ≤ 40000) (f0 : -1000000 ≤ f) (f1 : f ≤ 0) :
    ∃ d, Rep d (S + T) f ∧ ∃ K, ∀ k, K ≤ k → dy_Add.f k [⟨⟨n, l⟩, e⟩, ⟨⟨n', l'⟩, e'⟩] = some d := by
  have := addn_z [⟨⟨n, l⟩, e⟩, ⟨⟨n', l'⟩, e'⟩] f N hN (by simp) f0 f1 (zval f) (by simp [h.self, h'.self])
  simpa [h.at_, h'.at_] using this
theorem sub_z {n n' : Bool} {l l' : List Int} {e e' f S T : Int} {N : Nat} (h : Z n l e f S N) (h' : Z n' l' e' f T N) (hN : N ≤ 40000) (f0 : -1000000 ≤ f) (f1 : f ≤ 0) :
    ∃ d, Rep d (S - T) f ∧ ∃ K, ∀ k, K ≤ k → dy_Sub.f k n l e n' l' e' = some d := by
  obtain ⟨q, hq, K1, h1⟩ := neg_z h' (by omega) f0
  obtain ⟨d, hd, K2, h2⟩ := add2_z h (Z.of_rep hq (abs_neg h'.bd) (by omega) f0 f1) hN f0 f1
  refine ⟨d, by rw [Int.sub_eq_add_neg]; exact hd, K1 + K2, fun k hk => ?_⟩
  unfold dy_Sub.f
  rw [h1 k (by omega), Option.bind_some, h2 k (by omega)]
  rfl
theorem sgn_mulp (s : Int) (j : Nat) : sgn (s * 2 ^ j) = sgn s := by
  have hp := p2_pos j
  rcases Int.lt_trichotomy s 0 with h | h | h
  · rw [sgn_neg h, sgn_neg (Int.mul_neg_of_neg_of_pos h hp)]
  · rw [h, Int.zero_mul]
  · rw [sgn_pos h, sgn_pos (Int.mul_pos h hp)]
theorem sign_z {n : Bool} {l : List Int} {e f S : Int} {N : Nat} (h : Z n l e f S N) (hN : N ≤ 60000) (f0 : -1000000 ≤ f) (f1 : f ≤ 0) : ∃ K, ∀ k, K ≤ k → dy_Sign.f k n l e = some (sgn S) := by
  obtain ⟨d, hd, K1, h1⟩ := fair_z h f0
  have z := Z.of_rep hd h.bd hN f0 f1
  have hl := z.len
  obtain ⟨K2, h2⟩ := sign_ev d.1 d.2.1 z.u (by omega)
  refine ⟨K1 + K2, fun k hk => ?_⟩
  unfold dy_Sign.f
  rw [h1 k (by omega), Option.bind_some, h2 k (by omega), Option.bind_some, z.eq, sgn_mulp]
theorem cmp_z {n n' : Bool} {l l' : List Int} {e e' f S T : Int} {N : Nat} (h : Z n l e f S N) (h' : Z n' l' e' f T N) (hN : N ≤ 40000) (f0 : -1000000 ≤ f) (f1 : f ≤ 0) :
    ∃ K, ∀ k, K ≤ k → dy_Cmp.f k n l e n' l' e' = some (sgn (S - T)) := by
  obtain ⟨d, hd, K1, h1⟩ := sub_z h h' hN f0 f1
  obtain ⟨K2, h2⟩ := sign_z (Z.of_rep hd (by rw [Int.sub_eq_add_neg]; exact abs_add_lt h.bd (abs_neg h'.bd)) (by omega) f0 f1) (by omega) f0 f1
  refine ⟨K1 + K2, fun k hk => ?_⟩
  unfold dy_Cmp.f
  rw [h1 k (by omega), Option.bind_some, h2 k (by omega), Option.bind_some]
theorem mul_z {n n' : Bool} {l l' : List Int} {e e' f g S T : Int} {N M : Nat} (h : Z n l e f S N) (h' : Z n' l' e' g T M) (hN : N + M ≤ 30000) (f0 : -400000 ≤ f) (f1 : f ≤ 0) (g0 : -400000 ≤ g) (g1 : g ≤ 0) :
    ∃ d, Rep d (S * T) (f + g) ∧ ∃ K, ∀ k, K ≤ k → dy_Mul.f k n l e n' l' e' = some d := by
  obtain ⟨p, hp, K1, h1⟩ := fair_z h (by omega)
  obtain ⟨q, hq, K2, h2⟩ := fair_z h' (by omega)
  have zp := Z.of_rep hp h.bd (by omega) (by omega) f1
  have zq := Z.of_rep hq h'.bd (by omega) (by omega) g1
  have lp := zp.len
  have lq := zq.len
  have p0 := zp.lo
  have q0 := zq.lo
  -- exponents of what may be are small
  have ex : ∀ {d : Dd} {S f : Int} {N : Nat}, Rep d S f → (S.natAbs : Int) < 2 ^ N → f ≤ 0 → N ≤ 30000 → d.2.2 ≤ 40000 ∧ d.2.1.length ≤ 1000 := by
    intro d S f N hr hb f1 hN
    rcases hr.val with ⟨rfl, rfl⟩ | ⟨t, hE, hS, o, o0, o1, ho, hs⟩
    · simp
    · have b1 := mul_le_p t (show 1 ≤ o by omega)
      have b2 := Int.mul_le_mul_of_nonneg_left (show 1 ≤ (2 : Int) ^ t by have := p2_pos t; omega) (show 0 ≤ o by omega)
      have ht := p2_lt (show (2 : Int) ^ t < 2 ^ N by omega)
      have hl := len_lim (v := o) (by omega) N (by omega)
      rw [ho]
      omega
  have ⟨ep, lp2⟩ := ex hp h.bd f1 (by omega)
  have ⟨eq_, lq2⟩ := ex hq h'.bd g1 (by omega)
  obtain ⟨K3, h3⟩ := mulw_ev [⟨p.1, p.2.1⟩, ⟨q.1, q.2.1⟩] (by simp [zp.u, zq.u]) (by simp; omega) (by simp)
  have e3 : prodS [⟨p.1, p.2.1⟩, ⟨q.1, q.2.1⟩] = sg p.1 (val p.2.1) * sg q.1 (val q.2.1) := by
    rw [prodS_cons, prodS_cons, show prodS [] = 1 from rfl, Int.mul_one]
  rw [e3] at h3
  have eST : S * T = sg p.1 (val p.2.1) * sg q.1 (val q.2.1) * 2 ^ (p.2.2 + q.2.2 - (f + g)).toNat := by
    have a1 := zp.eq
    have a2 := zq.eq
    rw [show (p.2.2 + q.2.2 - (f + g)).toNat = (p.2.2 - f).toNat + (q.2.2 - g).toNat by omega, p2_add]
    rw [a1, a2]
    generalize sg p.1 (val p.2.1) = x
    generalize sg q.1 (val q.2.1) = y
    generalize (2 : Int) ^ (p.2.2 - f).toNat = u
    generalize (2 : Int) ^ (q.2.2 - g).toNat = v
    rw [Int.mul_assoc, Int.mul_left_comm u y v, ← Int.mul_assoc]
  have bST := abs_mul_lt h.bd h'.bd
  have zr : Z (nw (sg p.1 (val p.2.1) * sg q.1 (val q.2.1))).1 (nw (sg p.1 (val p.2.1) * sg q.1 (val q.2.1))).2 (p.2.2 + q.2.2) (f + g) (S * T) (N + M) := by
    rw [eST]
    exact Z.nw (by omega) (by omega) (by omega) (by rw [← eST]; exact bST)
  obtain ⟨d, hd, K4, h4⟩ := mk_z zr (by omega)
  refine ⟨d, hd, K1 + K2 + K3 + K4, fun k hk => ?_⟩
  unfold dy_Mul.f
  rw [h1 k (by omega), Option.bind_some, h2 k (by omega), Option.bind_some, h3 k (by omega), Option.bind_some, w64 (by omega) (by omega), h4 k (by omega)]
  rfl

/-- At a lower power. -/
theorem Z.down {n : Bool} {l : List Int} {e f S : Int} {N : Nat} (h : Z n l e f S N) (j : Nat) : Z n l e (f - j) (S * 2 ^ j) (N + j) := by
  have lo := h.lo
  refine ⟨h.u, h.len, by omega, h.hi, ?_, ?_⟩
  · rw [h.eq, Int.mul_assoc, ← p2_add, show (e - f).toNat + j = (e - (f - j)).toNat by omega]
  · rw [abs_mulp, p2_add]
    exact mul_lt_p j h.bd
end Go.Proofs.YthlhogcnfaiphaaDoor.T

namespace Go.Proofs.YthlhogcnfaiphaaDoor.T
set_option linter.unusedVariables false
set_option linter.unusedSimpArgs false
open Go.RowKit Go.Proofs.YthlhogcnfaiphaaDoorW.PrintWords Go.Proofs.YthlhogcnfaiphaaDoorW.PrintMore Go.Proofs.YthlhogcnfaiphaaDoor.PA

theorem sv_bd {a : Nm} (ha : mayP a) : ((sv a).natAbs : Int) < 2 ^ 64 := by
  unfold sv
  split
  · rename_i h
    have := may_fin ha h
    rw [sg_abs _ (by omega), p64]
    omega
  · rw [p64]; decide
/-- Two limbs of 64 bits. -/
theorem limbs_val {m : Int} (m0 : 0 ≤ m) (m1 : m < 18446744073709551616) : U [m % 4294967296, m / 4294967296 % 4294967296] ∧ val [m % 4294967296, m / 4294967296 % 4294967296] = m := by
  refine ⟨by simp only [U, List.mem_cons, List.not_mem_nil, or_false, forall_eq_or_imp, forall_eq]; omega, ?_⟩
  simp only [val_cons, val_nil]
  omega
theorem nexact_ev {a : Nm} (ha : mayP a) (h2 : a.1 ≠ 2) : ∃ d, Rep d (sv a) a.2.2.2 ∧ ∃ K, ∀ k, K ≤ k → num_Exact.f k a.1 a.2.1 a.2.2.1 a.2.2.2 = some (d.1, d.2.1, d.2.2, true) := by
  have hm := may_g ha
  rcases ha with ⟨a0, a1, am, ae⟩ | ⟨a0, am0, am1, ae0, ae1⟩ | ⟨a0, _⟩
  · obtain ⟨K1, h1⟩ := make_ev a.2.1 [0 % 4294967296, 0 / 4294967296 % 4294967296] (limbs_val (by decide) (by decide)).1 (by simp)
    rw [(limbs_val (m := 0) (by decide) (by decide)).2] at h1
    have z : Z (nw 0).1 (nw 0).2 0 0 0 1 := ⟨nw_U _, by show (lim _).length ≤ _; rw [show lim ((0 : Int).natAbs : Int) = [] from limN_zero]; simp, by decide, by decide, by rw [nw_sg]; simp, by simp⟩
    obtain ⟨d, hd, K2, h2⟩ := mk_z z (by decide)
    have es : sg a.2.1 0 = 0 := by cases a.2.1 <;> rfl
    rw [es] at h1
    refine ⟨d, by rw [sv_zero a0, ae]; exact hd, K1 + K2 + 1, fun k hk => ?_⟩
    obtain ⟨k, rfl⟩ : ∃ m, k = m + 1 := ⟨k - 1, by omega⟩
    unfold num_Exact.f
    rw [hm, Option.bind_some, if_pos rfl, a0]
    simp only [num_Exact.j0]
    rw [if_neg (by decide), am, ae, h1 k (by omega), Option.bind_some, h2 k (by omega), Option.bind_some]
  · have lv := limbs_val (m := a.2.2.1) (by omega) am1
    obtain ⟨K1, h1⟩ := make_ev a.2.1 [a.2.2.1 % 4294967296, a.2.2.1 / 4294967296 % 4294967296] lv.1 (by simp)
    rw [lv.2] at h1
    have es : sv a = sg a.2.1 a.2.2.1 := by unfold sv; rw [if_pos a0]
    have bd : ((sg a.2.1 a.2.2.1).natAbs : Int) < 2 ^ 64 := by rw [sg_abs _ (by omega), p64]; omega
    have ll := len_lim (v := ((sg a.2.1 a.2.2.1).natAbs : Int)) (by omega) 64 bd
    obtain ⟨d, hd⟩ := Dv.ex (sg (nw (sg a.2.1 a.2.2.1)).1 (val (nw (sg a.2.1 a.2.2.1)).2)) a.2.2.2
    obtain ⟨K2, h2⟩ := mk_ev (nw (sg a.2.1 a.2.2.1)).1 (nw (sg a.2.1 a.2.2.1)).2 a.2.2.2 (nw_U _) (by show (lim _).length ≤ _; omega) hd
    rw [nw_sg] at hd
    refine ⟨d, ?_, K1 + K2 + 1, fun k hk => ?_⟩
    · rw [es]
      rcases hd with ⟨h0, hd⟩ | ⟨o, t, o0, o1, s0, hs, hd⟩
      · exact .inl ⟨h0, hd⟩
      · have b1 := mul_le_p t (show 1 ≤ o by omega)
        have ht := p2_lt (show (2 : Int) ^ t < 2 ^ 64 by omega)
        rw [if_pos ⟨by omega, by omega, by omega⟩] at hd
        exact .inr ⟨o, t, o0, o1, s0, hs, hd⟩
    · obtain ⟨k, rfl⟩ : ∃ m, k = m + 1 := ⟨k - 1, by omega⟩
      unfold num_Exact.f
      rw [hm, Option.bind_some, if_pos rfl, a0]
      simp only [num_Exact.j0]
      rw [if_neg (by decide), h1 k (by omega), Option.bind_some, h2 k (by omega), Option.bind_some]
  · exact absurd a0 h2
/-- As it comes in elsewhere: at a power below it. -/
theorem nexact_z {a : Nm} (ha : mayP a) (h2 : a.1 ≠ 2) {g : Int} (g0 : -20000 ≤ g) (g1 : g ≤ 0) (hg : g ≤ a.2.2.2) (he : a.2.2.2 ≤ 10000) :
    ∃ d, Z d.1 d.2.1 d.2.2 g (sv a * 2 ^ (a.2.2.2 - g).toNat) (64 + (a.2.2.2 - g).toNat) ∧ Rep d (sv a) a.2.2.2 ∧ ∃ K, ∀ k, K ≤ k → num_Exact.f k a.1 a.2.1 a.2.2.1 a.2.2.2 = some (d.1, d.2.1, d.2.2, true) := by
  obtain ⟨d, hd, hK⟩ := nexact_ev ha h2
  have hb := sv_bd ha
  have ee : a.2.2.2 = g + ((a.2.2.2 - g).toNat : Nat) := by omega
  have h3 : Rep d (sv a) (g + ((a.2.2.2 - g).toNat : Nat)) := by rw [← ee]; exact hd
  refine ⟨d, Z.of_rep h3.scale ?_ (by omega) (by omega) g1, hd, hK⟩
  rw [abs_mulp, p2_add]
  exact mul_lt_p _ hb
end Go.Proofs.YthlhogcnfaiphaaDoor.T
