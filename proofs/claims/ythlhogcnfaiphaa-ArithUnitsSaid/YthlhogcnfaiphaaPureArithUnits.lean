/- Nought added, or one as a factor, changes no number that may be; a finite number less itself is nought; half of twice as much is it, unless that is beyond the greatest one. -/
import Derived.Test.YthlhogcnfaiphaaPAx2
import Derived.Test.YthlhogcnfaiphaaTF
namespace Go.Proofs.Ythlhogcnfaiphaa.Pure
set_option linter.unusedVariables false
set_option linter.unusedSimpArgs false
open Go.RowKit Go.Proofs.Ythlhogcnfaiphaa.PA Go.Proofs.YthlhogcnfaiphaaW.PrintWords Go.Proofs.YthlhogcnfaiphaaW.PrintLast Go.Proofs.Ythlhogcnfaiphaa.T

theorem sub_self {a : Nm} (ha : mayP a) (h2 : a.1 ≠ 2) (up : Bool) : addv a (ngv a) up = (0, false, 0, 0) := by
  obtain ⟨a1, a2, a3, a4⟩ := a
  rcases ha with ⟨h1, q2, q3, q4⟩ | ⟨h1, q2, q3, q4, q5⟩ | ⟨h1, _⟩ <;> simp only at h1
  · simp only at q2 q3 q4; subst h1 q2 q3 q4; rfl
  · subst h1
    have e : ngv (1, a2, a3, a4) = (1, !a2, a3, a4) := rfl
    rw [e, addv_fin rfl rfl]
    have ex : ∀ f, exs (1, a2, a3, a4) (1, !a2, a3, a4) f = 0 := fun f => by
      unfold exs
      simp only
      rw [sg_neg, Int.neg_mul]
      omega
    rw [ex]
    rfl
  · exact absurd h1 h2
theorem add_zero (a : Nm) (up : Bool) : addv a (0, false, 0, 0) up = a := by
  unfold addv
  rw [if_neg (by simp), if_pos (.inr rfl)]
theorem mul_zero (a : Nm) (up : Bool) : mulv a (0, false, 0, 0) up = (0, false, 0, 0) := by
  unfold mulv
  rw [if_pos (.inr rfl)]
/-- Times a power of two, where that may be. -/
theorem mul_p2 {a : Nm} (ha : mayP a) (f : Int) (up : Bool) (hf : a.1 = 1 → -1048576 ≤ a.2.2.2 + f ∧ a.2.2.2 + f ≤ 1048576) : mulv a (1, false, 9223372036854775808, f - 63) up = if a.1 = 1 then (1, a.2.1, a.2.2.1, a.2.2.2 + f) else a := by
  obtain ⟨a1, a2, a3, a4⟩ := a
  rcases ha with ⟨h1, q2, q3, q4⟩ | ⟨h1, q2, q3, q4, q5⟩ | ⟨h1, q2, q3⟩ <;> simp only at h1
  · simp only at q2 q3 q4; subst h1 q2 q3 q4; rfl
  · subst h1
    obtain ⟨f0, f1⟩ := hf rfl
    simp only at q2 q3 q4 q5 f0 f1
    rw [mulv_fin rfl rfl, if_pos rfl]
    simp only
    rw [← p63, rnd_scale (by omega), rnd_self q2 q3, show a4 + (f - 63) + ((63 : Nat) : Int) = a4 + f by omega, bnd_in f0 f1]
    cases a2 <;> rfl
  · simp only at q2 q3; subst h1 q2 q3
    cases a2 <;> rfl
theorem ArithUnits : peloruslaw06_ArithUnits.Pure := by
  intro x0 up o0
  refine ⟨11, ?_, fun r h => by rw [awake_ev 11 (by omega)] at h; exact (Option.some.inj h).symm⟩
  unfold peloruslaw06_ArithUnits.f
  have out : peloruslaw06_ArithUnits.j0 11 up true true x0.f0 x0.f1 x0.f2 x0.f3 = some true := rfl
  rw [awake_ev 11 (by omega), Option.bind_some, may_s o0, Option.bind_some]
  by_cases m0 : mayP (x0.f0, x0.f1, x0.f2, x0.f3)
  rotate_left
  · rw [decide_eq_false m0]; exact out
  rw [decide_eq_true m0, if_pos rfl]
  have q0 : nm x0 = (x0.f0, x0.f1, x0.f2, x0.f3) := fairv_of m0
  have key : (x0.f0 = 1 → x0.f3 < 1048576) → peloruslaw06_ArithUnits.j0 11 up true false x0.f0 x0.f1 x0.f2 x0.f3 = some true := by
    intro hx
    have e0 : ∀ up, addv (nm x0) (0, false, 0, 0) up = nm x0 := fun up => add_zero _ up
    have lo : x0.f0 = 1 → -1048576 ≤ x0.f3 := fun h => by
      exact (may_fin m0 h).2.2.1
    have e1 : mulv (nm x0) (ofv 1) up = nm x0 := by
      have := mul_p2 (nm_may x0) 0 up (by rw [q0]; intro h; have := hx h; have := lo h; simp only; omega)
      rw [of1, show (-63 : Int) = 0 - 63 by rfl, this, Int.add_zero]
      split
      · rename_i h; rw [← h]
      · rfl
    have e2 : mulv (mulv (nm x0) (ofv 2) up) halfn up = nm x0 := by
      have t := mul_p2 (nm_may x0) 1 up (by rw [q0]; intro h; have := hx h; have := lo h; simp only; omega)
      rw [of2, show (-62 : Int) = 1 - 63 by rfl, t]
      have h := mul_p2 (a := if (nm x0).1 = 1 then (1, (nm x0).2.1, (nm x0).2.2.1, (nm x0).2.2.2 + 1) else nm x0) (by
        have := mulv_may up (nm_may x0) (show mayP (1, false, 9223372036854775808, 1 - 63) by decide +kernel)
        rw [t] at this
        exact this) (-1) up (by
          rw [q0]
          simp only
          intro h
          split at h
          · rename_i h'
            have := hx h'
            have := lo h'
            rw [if_pos h']
            simp only
            omega
          · rename_i h'; exact absurd h h')
      unfold halfn
      rw [show (-64 : Int) = -1 - 63 by rfl, h]
      by_cases z : (nm x0).1 = 1
      · rw [if_pos (by rw [if_pos z]), if_pos z]
        simp only
        rw [show (nm x0).2.2.2 + 1 + -1 = (nm x0).2.2.2 by omega, ← z]
      · rw [if_neg (by rw [if_neg z]; exact z), if_neg z]
    have j1 : peloruslaw06_ArithUnits.j1 10 up true false x0.f0 x0.f1 x0.f2 x0.f3 0 false 0 0 = some true := by
      simp only [peloruslaw06_ArithUnits.j1, Bool.false_eq_true, if_false, if_true]
      have a1 := add_sn 9 (by omega) (q := (0, false, 0, 0)) up o0 (by decide +kernel)
      have a2 := mul_sn 9 (by omega) (q := (0, false, 0, 0)) up o0 (by decide +kernel)
      simp only at a1 a2
      have b : ∀ n : Nm, n = nm x0 → (n.1 == x0.f0 && (n.2.1 == x0.f1 && (n.2.2.1 == x0.f2 && (n.2.2.2 == x0.f3)))) = true := fun n h => by rw [h, q0]; simp
      rw [a1, Option.bind_some, if_pos (b _ (e0 up)), of_eq 9 (by omega) 1 (by decide) (by decide), Option.bind_some, mul_sn 9 (by omega) up o0 (by decide +kernel), Option.bind_some, if_pos (b _ e1), a2, Option.bind_some, mul_zero, if_pos (by rfl), twice_s 9 (by omega) up o0, Option.bind_some, half_n 9 (by omega) up (mulv_may up (nm_may x0) (by decide +kernel)), Option.bind_some, b _ e2]
    simp only [peloruslaw06_ArithUnits.j0, Bool.false_eq_true, if_false]
    by_cases z : x0.f0 = 2
    · rw [if_pos z]; exact j1
    · rw [if_neg z, sub_ss 10 (by omega) up o0 o0, Option.bind_some, sub_self (nm_may x0) (by rw [q0]; exact z) up]
      exact j1
  by_cases z : x0.f0 = 1
  · rw [if_pos z]
    by_cases z2 : x0.f3 ≥ 1048576
    · rw [decide_eq_true z2]; exact out
    · rw [decide_eq_false z2]; exact key (fun _ => by omega)
  · rw [if_neg z]; exact key (fun h => absurd h z)
end Go.Proofs.Ythlhogcnfaiphaa.Pure
