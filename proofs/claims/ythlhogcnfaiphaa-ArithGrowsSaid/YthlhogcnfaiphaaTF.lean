/- What wakes the statements of layer 6, and the calls of numbers that may be. -/
import Derived.Test.YthlhogcnfaiphaaPAx2
import Derived.Test.YthlhogcnfaiphaaTE
namespace Go.Proofs.Ythlhogcnfaiphaa.T
set_option linter.unusedVariables false
set_option linter.unusedSimpArgs false
open Go.RowKit Go.Proofs.YthlhogcnfaiphaaW.PrintWords Go.Proofs.YthlhogcnfaiphaaW.PrintMore Go.Proofs.Ythlhogcnfaiphaa.PA

theorem may_lt {n : Nm} (h : mayP n) : n.2.2.1 < 18446744073709551616 := by
  rcases h with ⟨_, _, h3, _⟩ | ⟨_, _, h3, _⟩ | ⟨_, h2, _⟩ <;> omega
theorem add_g (k : Nat) (hk : 9 ≤ k) (p q : Nm) (up : Bool) (hp : mayP p) (hq : mayP q) : arith_Add.f k p.1 p.2.1 p.2.2.1 p.2.2.2 q.1 q.2.1 q.2.2.1 q.2.2.2 up = some (addv p q up) := by
  rw [add_eq k hk _ _ _ _ _ _ _ _ _ (may_lt hp) (may_lt hq)]
  simp only [tup, fairv_of hp, fairv_of hq]
theorem mul_g (k : Nat) (hk : 4 ≤ k) (p q : Nm) (up : Bool) (hp : mayP p) (hq : mayP q) : arith_Mul.f k p.1 p.2.1 p.2.2.1 p.2.2.2 q.1 q.2.1 q.2.2.1 q.2.2.2 up = some (mulv p q up) := by
  rw [mul_eq k hk _ _ _ _ _ _ _ _ _ (may_lt hp) (may_lt hq)]
  simp only [tup, fairv_of hp, fairv_of hq]
theorem neg_g (p : Nm) (hp : mayP p) : num_Neg.f p.1 p.2.1 p.2.2.1 p.2.2.2 = some (ngv p) := by
  rw [nneg_eq _ _ _ _ (may_lt hp)]
  simp only [tup, fairv_of hp]
theorem next_g (k : Nat) (hk : 4 ≤ k) (p : Nm) (up : Bool) (hp : mayP p) : num_Next.f k p.1 p.2.1 p.2.2.1 p.2.2.2 up = some (nextv p up) := by
  rw [next_eq k hk _ _ _ _ _ (may_lt hp)]
  simp only [tup, fairv_of hp]
theorem nm_beq {a b : Nm} (h : a = b) : (a.1 == b.1 && (a.2.1 == b.2.1 && (a.2.2.1 == b.2.2.1 && (a.2.2.2 == b.2.2.2)))) = true := by subst h; simp
theorem of1 : ofv 1 = (1, false, 9223372036854775808, -63) := by decide +kernel
theorem of2 : ofv 2 = (1, false, 9223372036854775808, -62) := by decide +kernel
theorem ofm2 : ofv (-2) = (1, true, 9223372036854775808, -62) := by decide +kernel
theorem awake_ev (k : Nat) (hk : 9 ≤ k) : peloruslaw06_awake.f k = some true := by
  have m1 : mayP (ofv 1) := by decide +kernel
  have m2 : mayP (ofv (-2)) := by decide +kernel
  have m3 : mayP (1, false, 9223372036854775808, -133) := by decide +kernel
  have m4 : mayP (2, false, 0, 0) := by decide +kernel
  have e1 : addv (ofv 1) (1, false, 9223372036854775808, -133) true = nextv (ofv 1) true := by decide +kernel
  have e2 : addv (ofv 1) (1, false, 9223372036854775808, -133) false = ofv 1 := by decide +kernel
  have e3 : mulv (2, false, 0, 0) (ofv (-2)) true = (2, true, 0, 0) := by decide +kernel
  have a1 := add_g k hk (ofv 1) (1, false, 9223372036854775808, -133) true m1 m3
  have a2 := add_g k hk (ofv 1) (1, false, 9223372036854775808, -133) false m1 m3
  have a3 := mul_g k (by omega) (2, false, 0, 0) (ofv (-2)) true m4 m2
  have a4 := next_g k (by omega) (ofv 1) true m1
  simp only at a1 a2 a3
  unfold peloruslaw06_awake.f
  rw [of_eq k (by omega) 1 (by decide) (by decide), Option.bind_some, a1, Option.bind_some, a4, Option.bind_some, if_pos (nm_beq e1), a2, Option.bind_some, if_pos (nm_beq e2), if_pos (by decide +kernel)]
  simp only [num_Infinite.f, Option.bind_some]
  rw [of_eq k (by omega) (-2) (by decide) (by decide), Option.bind_some, a3, Option.bind_some, e3]
  rfl
theorem m_lt {x : Int} (h : (Lit.int .u64 x).wf = true) : x < 18446744073709551616 := by have := u64_of_wf h; omega
/-- What a parameter counts as. -/
def nm (x : S24) : Nm := fairv (x.f0, x.f1, x.f2, x.f3)
theorem nm_may (x : S24) : mayP (nm x) := fairv_may _
theorem add_ss (k : Nat) (hk : 9 ≤ k) {x y : S24} (up : Bool) (hx : ok24 x) (hy : ok24 y) : arith_Add.f k x.f0 x.f1 x.f2 x.f3 y.f0 y.f1 y.f2 y.f3 up = some (addv (nm x) (nm y) up) := add_eq k hk _ _ _ _ _ _ _ _ _ (m_lt hx.2.2.1) (m_lt hy.2.2.1)
theorem mul_ss (k : Nat) (hk : 4 ≤ k) {x y : S24} (up : Bool) (hx : ok24 x) (hy : ok24 y) : arith_Mul.f k x.f0 x.f1 x.f2 x.f3 y.f0 y.f1 y.f2 y.f3 up = some (mulv (nm x) (nm y) up) := mul_eq k hk _ _ _ _ _ _ _ _ _ (m_lt hx.2.2.1) (m_lt hy.2.2.1)
theorem add_sn (k : Nat) (hk : 9 ≤ k) {x : S24} {q : Nm} (up : Bool) (hx : ok24 x) (hq : mayP q) : arith_Add.f k x.f0 x.f1 x.f2 x.f3 q.1 q.2.1 q.2.2.1 q.2.2.2 up = some (addv (nm x) q up) := by
  rw [add_eq k hk _ _ _ _ _ _ _ _ _ (m_lt hx.2.2.1) (may_lt hq), tup, fairv_of hq]; rfl
theorem mul_ns (k : Nat) (hk : 4 ≤ k) {p : Nm} {y : S24} (up : Bool) (hp : mayP p) (hy : ok24 y) : arith_Mul.f k p.1 p.2.1 p.2.2.1 p.2.2.2 y.f0 y.f1 y.f2 y.f3 up = some (mulv p (nm y) up) := by
  rw [mul_eq k hk _ _ _ _ _ _ _ _ _ (may_lt hp) (m_lt hy.2.2.1), tup, fairv_of hp]; rfl
theorem mul_sn (k : Nat) (hk : 4 ≤ k) {x : S24} {q : Nm} (up : Bool) (hx : ok24 x) (hq : mayP q) : arith_Mul.f k x.f0 x.f1 x.f2 x.f3 q.1 q.2.1 q.2.2.1 q.2.2.2 up = some (mulv (nm x) q up) := by
  rw [mul_eq k hk _ _ _ _ _ _ _ _ _ (m_lt hx.2.2.1) (may_lt hq), tup, fairv_of hq]; rfl
theorem neg_s {x : S24} (hx : ok24 x) : num_Neg.f x.f0 x.f1 x.f2 x.f3 = some (ngv (nm x)) := nneg_eq _ _ _ _ (m_lt hx.2.2.1)
theorem next_s (k : Nat) (hk : 4 ≤ k) {x : S24} (up : Bool) (hx : ok24 x) : num_Next.f k x.f0 x.f1 x.f2 x.f3 up = some (nextv (nm x) up) := next_eq k hk _ _ _ _ _ (m_lt hx.2.2.1)
theorem may_s {x : S24} (hx : ok24 x) : num_May.f x.f0 x.f1 x.f2 x.f3 = some (decide (mayP (x.f0, x.f1, x.f2, x.f3))) := may_eq _ _ _ _ (m_lt hx.2.2.1)
theorem sub_ss (k : Nat) (hk : 9 ≤ k) {x y : S24} (up : Bool) (hx : ok24 x) (hy : ok24 y) : arith_Sub.f k x.f0 x.f1 x.f2 x.f3 y.f0 y.f1 y.f2 y.f3 up = some (addv (nm x) (ngv (nm y)) up) := by
  unfold arith_Sub.f
  rw [neg_s hy, Option.bind_some, add_sn k hk up hx (ngv_may (nm_may y)), Option.bind_some]
theorem twice_s (k : Nat) (hk : 4 ≤ k) {x : S24} (up : Bool) (hx : ok24 x) : arith_Twice.f k x.f0 x.f1 x.f2 x.f3 up = some (mulv (nm x) (ofv 2) up) := by
  unfold arith_Twice.f
  rw [of_eq k (by omega) 2 (by decide) (by decide), Option.bind_some, mul_sn k hk up hx (by decide +kernel), Option.bind_some]
/-- A half. -/
def halfn : Nm := (1, false, 9223372036854775808, -64)
theorem halfn_may : mayP halfn := by decide +kernel
theorem half_s (k : Nat) (hk : 4 ≤ k) {x : S24} (up : Bool) (hx : ok24 x) : arith_Half.f k x.f0 x.f1 x.f2 x.f3 up = some (mulv (nm x) halfn up) := by
  unfold arith_Half.f
  rw [of_eq k (by omega) 1 (by decide) (by decide), Option.bind_some, of1]
  have h := mul_sn k hk up hx halfn_may
  simp only [halfn] at h
  simp only [show wrap64 (-63 - 1) = -64 by decide +kernel]
  rw [h]
  rfl
theorem half_n (k : Nat) (hk : 4 ≤ k) {p : Nm} (up : Bool) (hp : mayP p) : arith_Half.f k p.1 p.2.1 p.2.2.1 p.2.2.2 up = some (mulv p halfn up) := by
  unfold arith_Half.f
  rw [of_eq k (by omega) 1 (by decide) (by decide), Option.bind_some, of1]
  have h := mul_g k hk p halfn up hp halfn_may
  simp only [halfn] at h
  simp only [show wrap64 (-63 - 1) = -64 by decide +kernel]
  rw [h]
  rfl
end Go.Proofs.Ythlhogcnfaiphaa.T
