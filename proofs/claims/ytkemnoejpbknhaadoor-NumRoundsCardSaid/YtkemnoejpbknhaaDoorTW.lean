/- The least and the greatest of some numbers of layer 5, as the code and the document have them. -/
import Derived.Test.YtkemnoejpbknhaaDoorPAx2
import Derived.Test.YtkemnoejpbknhaaDoorTQ2
namespace Go.Proofs.YtkemnoejpbknhaaDoor.T
set_option linter.unusedVariables false
set_option linter.unusedSimpArgs false
open Go.RowKit Go.Proofs.YtkemnoejpbknhaaDoorW.PrintWords Go.Proofs.YtkemnoejpbknhaaDoorW.PrintMore Go.Proofs.YtkemnoejpbknhaaDoor.PA

def s30 (p : Nm) : S30 := ⟨p.1, p.2.1, p.2.2.1, p.2.2.2⟩
theorem wf_i64 {x : Int} (h0 : -9223372036854775808 ≤ x) (h1 : x ≤ 9223372036854775807) : (Lit.int .i64 x).wf = true := by
  rw [Lit.wf_int_iff, show IntKind.min .i64 = -9223372036854775808 by decide, show IntKind.max .i64 = 9223372036854775807 by decide]
  exact ⟨h0, h1⟩
theorem wf_u64 {x : Int} (h0 : 0 ≤ x) (h1 : x < 18446744073709551616) : (Lit.int .u64 x).wf = true := by
  rw [Lit.wf_int_iff, show IntKind.min .u64 = 0 by decide, show IntKind.max .u64 = 18446744073709551615 by decide]
  exact ⟨h0, by omega⟩
theorem ok_may {p : Nm} (h : mayP p) : ok30 (s30 p) := by
  unfold ok30 s30
  rcases h with ⟨h1, h2, h3, h4⟩ | ⟨h1, h2, h3, h4, h5⟩ | ⟨h1, h2, h3⟩
  · exact ⟨wf_i64 (by simp only; omega) (by simp only; omega), trivial, wf_u64 (by simp only; omega) (by simp only; omega), wf_i64 (by simp only; omega) (by simp only; omega)⟩
  · exact ⟨wf_i64 (by simp only; omega) (by simp only; omega), trivial, wf_u64 (by simp only; omega) (by simp only; omega), wf_i64 (by simp only; omega) (by simp only; omega)⟩
  · exact ⟨wf_i64 (by simp only; omega) (by simp only; omega), trivial, wf_u64 (by simp only; omega) (by simp only; omega), wf_i64 (by simp only; omega) (by simp only; omega)⟩
theorem nm_s30 {p : Nm} (h : mayP p) : nm (s30 p) = p := fairv_of h
theorem cmp_sn {x : S30} {p : Nm} (hx : ok30 x) (hp : mayP p) : num_Cmp.f x.f0 x.f1 x.f2 x.f3 p.1 p.2.1 p.2.2.1 p.2.2.2 = some (sgn (kv (nm x) - kv p)) := by
  have := cmp_ss hx (ok_may hp)
  rw [nm_s30 hp] at this
  exact this
theorem cmp_ns {x : S30} {p : Nm} (hp : mayP p) (hx : ok30 x) : num_Cmp.f p.1 p.2.1 p.2.2.1 p.2.2.2 x.f0 x.f1 x.f2 x.f3 = some (sgn (kv p - kv (nm x))) := by
  have := cmp_ss (ok_may hp) hx
  rw [nm_s30 hp] at this
  exact this
theorem fair_s {x : S30} (hx : ok30 x) : num_fair.f x.f0 x.f1 x.f2 x.f3 = some (nm x) := nfair_eq _ _ _ _ (m_lt hx.2.2.1)
theorem rfair_s {x : S30} (hx : ok30 x) : pelorusref05_fair.f x.f0 x.f1 x.f2 x.f3 = some (nm x) := fair5_eq _ _ _ _ (m_lt hx.2.2.1)
theorem sgn_lt0 {x : Int} : sgn x < 0 ↔ x < 0 := by
  rcases Int.lt_trichotomy x 0 with h | h | h
  · rw [sgn_neg h]; simp [h]
  · subst h; simp [sgn_zero]
  · rw [sgn_pos h]; omega
theorem sgn_gt0 {x : Int} : 0 < sgn x ↔ 0 < x := by
  rcases Int.lt_trichotomy x 0 with h | h | h
  · rw [sgn_neg h]; omega
  · subst h; simp [sgn_zero]
  · rw [sgn_pos h]; simp [h]
theorem rsign_g {p : Nm} (h : mayP p) : pelorusref05_Sign.f p.1 p.2.1 p.2.2.1 p.2.2.2 = some (sgn (kv p)) := by
  unfold pelorusref05_Sign.f
  rw [fair5_eq _ _ _ _ (may_lt h), Option.bind_some, show fairv (p.1, p.2.1, p.2.2.1, p.2.2.2) = p from fairv_of h]
  unfold kv sg
  rcases mg_val h with ⟨a1, a2, a3, a4, a5⟩ | ⟨a1, a2, a3, a4, a5, a6⟩ | ⟨a1, a2, a3, a4⟩
  · rw [if_pos a1, a5]; simp [sgn_zero]
  · rw [if_neg (by omega)]
    cases p.2.1
    · rw [if_neg (by decide), if_neg (by decide), sgn_pos (by omega)]
    · rw [if_pos rfl, if_pos rfl, sgn_neg (by omega)]
  · rw [if_neg (by omega)]
    cases p.2.1
    · rw [if_neg (by decide), if_neg (by decide), sgn_pos (by omega)]
    · rw [if_pos rfl, if_pos rfl, sgn_neg (by omega)]
theorem rcmp_g {a b : Nm} (ha : mayP a) (hb : mayP b) (k : Nat) (hk : 1 ≤ k) : pelorusref05_Cmp.f k a.1 a.2.1 a.2.2.1 a.2.2.2 b.1 b.2.1 b.2.2.1 b.2.2.2 = some (sgn (kv a - kv b)) := by
  obtain ⟨k, rfl⟩ : ∃ m, k = m + 1 := ⟨k - 1, by omega⟩
  unfold pelorusref05_Cmp.f
  rw [fair5_eq _ _ _ _ (may_lt ha), Option.bind_some, fair5_eq _ _ _ _ (may_lt hb), Option.bind_some, show fairv (a.1, a.2.1, a.2.2.1, a.2.2.2) = a from fairv_of ha, show fairv (b.1, b.2.1, b.2.2.1, b.2.2.2) = b from fairv_of hb,
    rsign_g ha, Option.bind_some, rsign_g hb, Option.bind_some]
  by_cases hs : sgn (kv a) = sgn (kv b)
  · rw [if_pos hs]
    by_cases hz : sgn (kv a) = 0
    · rw [if_pos hz]
      have h1 := sgn0_kv.1 hz
      have h2 := sgn0_kv.1 (hs ▸ hz)
      simp only [pelorusref05_Cmp.j0]
      rw [h1, h2]; rfl
    · rw [if_neg hz, nm_beq']
      simp only [pelorusref05_Cmp.j0]
      by_cases he : a = b
      · rw [decide_eq_true he, if_pos rfl, he, Int.sub_self]; rfl
      · rw [decide_eq_false he, if_neg (by decide)]
        have hne : kv a ≠ kv b := fun h => he (kv_inj ha hb h)
        have ma := (mg_bd ha).1
        have mb := (mg_bd hb).1
        -- the sign, told out of the flag
        have key : (sgn (kv a) = 1 ∧ kv a = mg a ∧ kv b = mg b) ∨ (sgn (kv a) = -1 ∧ kv a = -mg a ∧ kv b = -mg b) := by
          have za : kv a ≠ 0 := fun h => hz (by rw [h]; rfl)
          rcases Int.lt_trichotomy (kv a) 0 with h | h | h
          · rw [sgn_neg h] at hs ⊢
            have hb' := sgn_lt0.1 (show sgn (kv b) < 0 by rw [← hs]; decide)
            right
            unfold kv sg at h hb' ⊢
            refine ⟨rfl, ?_, ?_⟩
            · split at h
              · rename_i q; rw [if_pos q]
              · omega
            · split at hb'
              · rename_i q; rw [if_pos q]
              · omega
          · exact absurd h za
          · rw [sgn_pos h] at hs ⊢
            have hb' := sgn_gt0.1 (show 0 < sgn (kv b) by rw [← hs]; decide)
            left
            unfold kv sg at h hb' ⊢
            refine ⟨rfl, ?_, ?_⟩
            · split at h
              · omega
              · rename_i q; rw [if_neg q]
            · split at hb'
              · omega
              · rename_i q; rw [if_neg q]
        have w1 : wrap64 (-sgn (kv a)) = -sgn (kv a) := by rcases key with ⟨k1, _⟩ | ⟨k1, _⟩ <;> rw [k1] <;> exact w64 (by decide) (by decide)
        rw [w1]
        have fin : (mg b < mg a → sgn (kv a - kv b) = sgn (kv a)) ∧ (mg a < mg b → sgn (kv a - kv b) = -sgn (kv a)) := by
          rcases key with ⟨k1, k2, k3⟩ | ⟨k1, k2, k3⟩
          · rw [k1, k2, k3]
            exact ⟨fun h => sgn_pos (by omega), fun h => sgn_neg (by omega)⟩
          · rw [k1, k2, k3]
            exact ⟨fun h => sgn_neg (by omega), fun h => sgn_pos (by omega)⟩
        have mne : mg a ≠ mg b := by
          rcases key with ⟨k1, k2, k3⟩ | ⟨k1, k2, k3⟩ <;> omega
        have nza : mg a ≠ 0 := by
          intro h
          apply hz
          rcases key with ⟨k1, k2, k3⟩ | ⟨k1, k2, k3⟩ <;> rw [k2, h] <;> rfl
        have nzb : mg b ≠ 0 := by
          intro h
          apply hz
          rw [hs]
          rcases key with ⟨k1, k2, k3⟩ | ⟨k1, k2, k3⟩ <;> rw [k3, h] <;> rfl
        rcases mg_val ha with ⟨a1, a2, a3, a4, a5⟩ | ⟨a1, a2, a3, a4, a5, a6⟩ | ⟨a1, a2, a3, a4⟩
        · exact absurd a5 nza
        · rw [if_neg (by omega)]
          rcases mg_val hb with ⟨b1, b2, b3, b4, b5⟩ | ⟨b1, b2, b3, b4, b5, b6⟩ | ⟨b1, b2, b3, b4⟩
          · exact absurd b5 nzb
          · rw [if_neg (by omega)]
            by_cases q : a.2.2.2 > b.2.2.2
            · rw [if_pos q, fin.1 (by omega)]
            · rw [if_neg q]
              by_cases q2 : a.2.2.2 = b.2.2.2
              · rw [if_pos q2]
                by_cases q3 : a.2.2.1 > b.2.2.1
                · rw [if_pos q3, fin.1 (by omega)]
                · rw [if_neg q3, fin.2 (by omega)]
              · rw [if_neg q2, fin.2 (by omega)]
          · rw [if_pos b1, fin.2 (by omega)]
        · rw [if_pos a1]
          rcases mg_val hb with ⟨b1, b2, b3, b4, b5⟩ | ⟨b1, b2, b3, b4, b5, b6⟩ | ⟨b1, b2, b3, b4⟩
          · rw [fin.1 (by omega)]
          · rw [fin.1 (by omega)]
          · exact absurd (a4.trans b4.symm) mne
  · rw [if_neg hs]
    rcases Int.lt_trichotomy (kv a) 0 with h | h | h <;> rcases Int.lt_trichotomy (kv b) 0 with h2 | h2 | h2
    · exact absurd (by rw [sgn_neg h, sgn_neg h2]) hs
    · rw [h2, sgn_neg h, sgn_zero, if_pos (by decide), sgn_neg (by omega)]
    · rw [sgn_neg h, sgn_pos h2, if_pos (by decide), sgn_neg (by omega)]
    · rw [h, sgn_neg h2, sgn_zero, if_neg (by decide), sgn_pos (by omega)]
    · exact absurd (by rw [h, h2]) hs
    · rw [h, sgn_pos h2, sgn_zero, if_pos (by decide), sgn_neg (by omega)]
    · rw [sgn_pos h, sgn_neg h2, if_neg (by decide), sgn_pos (by omega)]
    · rw [h2, sgn_pos h, sgn_zero, if_neg (by decide), sgn_pos (by omega)]
    · exact absurd (by rw [sgn_pos h, sgn_pos h2]) hs
theorem rcmp_ss {x y : S30} (hx : ok30 x) (hy : ok30 y) (k : Nat) (hk : 1 ≤ k) : pelorusref05_Cmp.f k x.f0 x.f1 x.f2 x.f3 y.f0 y.f1 y.f2 y.f3 = some (sgn (kv (nm x) - kv (nm y))) := by
  have := rcmp_g (nm_may x) (nm_may y) k hk
  rw [← this]
  unfold pelorusref05_Cmp.f
  rw [rfair_s hx, rfair_s hy, fair5_eq _ _ _ _ (may_lt (nm_may x)), fair5_eq _ _ _ _ (may_lt (nm_may y))]
  rw [show fairv ((nm x).1, (nm x).2.1, (nm x).2.2.1, (nm x).2.2.2) = nm x from fairv_of (nm_may x), show fairv ((nm y).1, (nm y).2.1, (nm y).2.2.1, (nm y).2.2.2) = nm y from fairv_of (nm_may y)]
theorem rcmp_sn {x : S30} {p : Nm} (hx : ok30 x) (hp : mayP p) (k : Nat) (hk : 1 ≤ k) : pelorusref05_Cmp.f k x.f0 x.f1 x.f2 x.f3 p.1 p.2.1 p.2.2.1 p.2.2.2 = some (sgn (kv (nm x) - kv p)) := by
  have := rcmp_ss hx (ok_may hp) k hk
  rw [nm_s30 hp] at this
  exact this
def lesv (a : Nm) (l : List S30) : Nm := l.foldl (fun a x => if kv (nm x) < kv a then nm x else a) a
def mosv (a : Nm) (l : List S30) : Nm := l.foldl (fun a x => if kv a < kv (nm x) then nm x else a) a
theorem rd30 (l : List S30) (i : Nat) (h : i < l.length) : rd_T30 l (i : Int) = l[i] := by
  show l.getD ((i : Int)).toNat z30 = l[i]
  rw [Int.toNat_natCast, List.getD_eq_getElem?_getD, List.getElem?_eq_getElem h]; rfl
theorem lesv_at (a : Nm) (l : List S30) (i : Nat) (h : i < l.length) : lesv a (l.drop i) = lesv (if kv (nm l[i]) < kv a then nm l[i] else a) (l.drop (i + 1)) := by
  rw [List.drop_eq_getElem_cons h]; rfl
theorem mosv_at (a : Nm) (l : List S30) (i : Nat) (h : i < l.length) : mosv a (l.drop i) = mosv (if kv a < kv (nm l[i]) then nm l[i] else a) (l.drop (i + 1)) := by
  rw [List.drop_eq_getElem_cons h]; rfl
theorem least_l0 (l : List S30) (hl : l.length ≤ 1073741824) (ho : ∀ x ∈ l, ok30 x) (n : Nat) : ∀ (i : Nat) (a : Nm), n + i = l.length → mayP a → ∀ k, n + 2 ≤ k → num_Least.l0 k l (l.length : Int) (i : Int) a.1 a.2.1 a.2.2.1 a.2.2.2 = some (lesv a (l.drop i)) := by
  induction n with
  | zero =>
    intro i a hi ha k hk
    obtain ⟨k, rfl⟩ : ∃ m, k = m + 1 := ⟨k - 1, by omega⟩
    simp only [num_Least.l0]
    rw [if_neg (by omega), show i = l.length by omega, List.drop_length]
    rfl
  | succ n ih =>
    intro i a hi ha k hk
    obtain ⟨k, rfl⟩ : ∃ m, k = m + 1 := ⟨k - 1, by omega⟩
    have hil : i < l.length := by omega
    have hx := ho l[i] (List.getElem_mem hil)
    simp only [num_Least.l0]
    rw [if_pos (by omega), if_pos (by omega), if_pos (by omega), rd30 l i hil, cmp_sn hx ha, Option.bind_some, w64_succ (by omega), lesv_at a l i hil]
    by_cases hc : kv (nm l[i]) < kv a
    · rw [if_pos (sgn_lt0.2 (by omega)), fair_s hx, Option.bind_some, if_pos hc]
      exact ih (i + 1) _ (by omega) (nm_may _) k (by omega)
    · rw [if_neg (fun h => hc (by have := sgn_lt0.1 h; omega)), if_neg hc]
      exact ih (i + 1) _ (by omega) ha k (by omega)
theorem most_l0 (l : List S30) (hl : l.length ≤ 1073741824) (ho : ∀ x ∈ l, ok30 x) (n : Nat) : ∀ (i : Nat) (a : Nm), n + i = l.length → mayP a → ∀ k, n + 2 ≤ k → num_Most.l0 k l (l.length : Int) (i : Int) a.1 a.2.1 a.2.2.1 a.2.2.2 = some (mosv a (l.drop i)) := by
  induction n with
  | zero =>
    intro i a hi ha k hk
    obtain ⟨k, rfl⟩ : ∃ m, k = m + 1 := ⟨k - 1, by omega⟩
    simp only [num_Most.l0]
    rw [if_neg (by omega), show i = l.length by omega, List.drop_length]
    rfl
  | succ n ih =>
    intro i a hi ha k hk
    obtain ⟨k, rfl⟩ : ∃ m, k = m + 1 := ⟨k - 1, by omega⟩
    have hil : i < l.length := by omega
    have hx := ho l[i] (List.getElem_mem hil)
    simp only [num_Most.l0]
    rw [if_pos (by omega), if_pos (by omega), if_pos (by omega), rd30 l i hil, cmp_sn hx ha, Option.bind_some, w64_succ (by omega), mosv_at a l i hil]
    by_cases hc : kv a < kv (nm l[i])
    · rw [if_pos (sgn_gt0.2 (by omega)), fair_s hx, Option.bind_some, if_pos hc]
      exact ih (i + 1) _ (by omega) (nm_may _) k (by omega)
    · rw [if_neg (fun h => hc (by have := sgn_gt0.1 h; omega)), if_neg hc]
      exact ih (i + 1) _ (by omega) ha k (by omega)
theorem rleast_l0 (l : List S30) (hl : l.length ≤ 1073741824) (ho : ∀ x ∈ l, ok30 x) (n : Nat) : ∀ (i : Nat) (a : Nm), n + i = l.length → mayP a → ∀ k, n + 2 ≤ k → pelorusref05_Least.l0 k l (i : Int) a.1 a.2.1 a.2.2.1 a.2.2.2 = some (lesv a (l.drop i)) := by
  induction n with
  | zero =>
    intro i a hi ha k hk
    obtain ⟨k, rfl⟩ : ∃ m, k = m + 1 := ⟨k - 1, by omega⟩
    simp only [pelorusref05_Least.l0]
    rw [if_neg (by omega), show i = l.length by omega, List.drop_length]
    rfl
  | succ n ih =>
    intro i a hi ha k hk
    obtain ⟨k, rfl⟩ : ∃ m, k = m + 1 := ⟨k - 1, by omega⟩
    have hil : i < l.length := by omega
    have hx := ho l[i] (List.getElem_mem hil)
    simp only [pelorusref05_Least.l0]
    rw [if_pos (by omega), if_pos (by omega), rd30 l i hil, rcmp_sn hx ha k (by omega), Option.bind_some, w64_succ (by omega), lesv_at a l i hil]
    by_cases hc : kv (nm l[i]) < kv a
    · rw [if_pos (sgn_lt0.2 (by omega)), rfair_s hx, Option.bind_some, if_pos hc]
      exact ih (i + 1) _ (by omega) (nm_may _) k (by omega)
    · rw [if_neg (fun h => hc (by have := sgn_lt0.1 h; omega)), if_neg hc]
      exact ih (i + 1) _ (by omega) ha k (by omega)
theorem rmost_l0 (l : List S30) (hl : l.length ≤ 1073741824) (ho : ∀ x ∈ l, ok30 x) (n : Nat) : ∀ (i : Nat) (a : Nm), n + i = l.length → mayP a → ∀ k, n + 2 ≤ k → pelorusref05_Most.l0 k l (i : Int) a.1 a.2.1 a.2.2.1 a.2.2.2 = some (mosv a (l.drop i)) := by
  induction n with
  | zero =>
    intro i a hi ha k hk
    obtain ⟨k, rfl⟩ : ∃ m, k = m + 1 := ⟨k - 1, by omega⟩
    simp only [pelorusref05_Most.l0]
    rw [if_neg (by omega), show i = l.length by omega, List.drop_length]
    rfl
  | succ n ih =>
    intro i a hi ha k hk
    obtain ⟨k, rfl⟩ : ∃ m, k = m + 1 := ⟨k - 1, by omega⟩
    have hil : i < l.length := by omega
    have hx := ho l[i] (List.getElem_mem hil)
    simp only [pelorusref05_Most.l0]
    rw [if_pos (by omega), if_pos (by omega), rd30 l i hil, rcmp_sn hx ha k (by omega), Option.bind_some, w64_succ (by omega), mosv_at a l i hil]
    by_cases hc : kv a < kv (nm l[i])
    · rw [if_pos (sgn_gt0.2 (by omega)), rfair_s hx, Option.bind_some, if_pos hc]
      exact ih (i + 1) _ (by omega) (nm_may _) k (by omega)
    · rw [if_neg (fun h => hc (by have := sgn_gt0.1 h; omega)), if_neg hc]
      exact ih (i + 1) _ (by omega) ha k (by omega)
def infn (b : Bool) : Nm := (2, b, 0, 0)
theorem inf_may (b : Bool) : mayP (infn b) := .inr (.inr ⟨rfl, rfl, rfl⟩)
theorem least_ev (l : List S30) (hl : l.length ≤ 1073741824) (ho : ∀ x ∈ l, ok30 x) (k : Nat) (hk : l.length + 2 ≤ k) : num_Least.f k l = some (lesv (infn false) l) := least_l0 l hl ho l.length 0 (infn false) (by omega) (inf_may _) k hk
theorem most_ev (l : List S30) (hl : l.length ≤ 1073741824) (ho : ∀ x ∈ l, ok30 x) (k : Nat) (hk : l.length + 2 ≤ k) : num_Most.f k l = some (mosv (infn true) l) := most_l0 l hl ho l.length 0 (infn true) (by omega) (inf_may _) k hk
theorem rleast_ev (l : List S30) (hl : l.length ≤ 1073741824) (ho : ∀ x ∈ l, ok30 x) (k : Nat) (hk : l.length + 2 ≤ k) : pelorusref05_Least.f k l = some (lesv (infn false) l) := rleast_l0 l hl ho l.length 0 (infn false) (by omega) (inf_may _) k hk
theorem rmost_ev (l : List S30) (hl : l.length ≤ 1073741824) (ho : ∀ x ∈ l, ok30 x) (k : Nat) (hk : l.length + 2 ≤ k) : pelorusref05_Most.f k l = some (mosv (infn true) l) := rmost_l0 l hl ho l.length 0 (infn true) (by omega) (inf_may _) k hk
theorem lesv_may (l : List S30) : ∀ {a : Nm}, mayP a → mayP (lesv a l) := by
  induction l with
  | nil => intro a h; exact h
  | cons x l ih =>
    intro a h
    show mayP (lesv (if kv (nm x) < kv a then nm x else a) l)
    apply ih
    split
    · exact nm_may x
    · exact h
theorem mosv_may (l : List S30) : ∀ {a : Nm}, mayP a → mayP (mosv a l) := by
  induction l with
  | nil => intro a h; exact h
  | cons x l ih =>
    intro a h
    show mayP (mosv (if kv a < kv (nm x) then nm x else a) l)
    apply ih
    split
    · exact nm_may x
    · exact h
theorem les_kv (a : Nm) (x : S30) : kv (if kv (nm x) < kv a then nm x else a) = min (kv a) (kv (nm x)) := by split <;> omega
theorem mos_kv (a : Nm) (x : S30) : kv (if kv a < kv (nm x) then nm x else a) = max (kv a) (kv (nm x)) := by split <;> omega
theorem lesv3 (x y z : S30) : kv (lesv (infn false) [x, y, z]) = min (min (kv (nm x)) (kv (nm y))) (kv (nm z)) := by
  have h := (kv_bd (nm_may x)).2
  show kv (if _ then _ else _) = _
  rw [les_kv, les_kv, les_kv, show kv (infn false) = 2097153 * 9223372036854775808 + 1 from rfl]
  omega
theorem mosv3 (x y z : S30) : kv (mosv (infn true) [x, y, z]) = max (max (kv (nm x)) (kv (nm y))) (kv (nm z)) := by
  have h := (kv_bd (nm_may x)).1
  show kv (if _ then _ else _) = _
  rw [mos_kv, mos_kv, mos_kv, show kv (infn true) = -(2097153 * 9223372036854775808 + 1) from rfl]
  omega
end Go.Proofs.YtkemnoejpbknhaaDoor.T
