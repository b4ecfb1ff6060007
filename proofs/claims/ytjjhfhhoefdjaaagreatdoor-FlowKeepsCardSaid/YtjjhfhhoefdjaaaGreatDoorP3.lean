/- Plain laws: what the functions answer, without the program's memory (part 3). No condition. -/
import Derived.Test.YtjjhfhhoefdjaaaGreatDoorP2
import Derived.KernelRfl
import Derived.DataShut
import Derived.Laws.BitsLemmas
import Derived.Lib.EndianBits
namespace Go.Proofs.YtjjhfhhoefdjaaaGreatDoor.Rf.Pl
open Go Go.Proofs
set_option linter.unusedVariables false
set_option linter.unusedSimpArgs false
/-! ### nat: cut, Trim, Len, Cmp, Add, Sub -/
theorem cut_l0 (k : Nat) : ∀ (n : Nat) (l : List Int) (m : Nat), l.length = n → n < m → U l → n ≤ 1073741824 → nat_cut_l0 k m ((l, ()), ()) = some (Sum.inl ((lim (val l), ()), ())) := by
  intro n
  induction n with
  | zero =>
    intro l m hn hm h hb
    obtain ⟨m, rfl⟩ : ∃ i, m = i + 1 := ⟨m - 1, by omega⟩
    have : l = [] := List.eq_nil_of_length_eq_zero hn
    subst this
    have e : ¬ ((([] : List Int).length : Nat) : Int) > 0 := by decide
    simp only [nat_cut_l0, cond_f e]
    rw [val_nil, show lim 0 = [] from limN_zero]
  | succ n ih =>
    intro l m hn hm h hb
    obtain ⟨m, rfl⟩ : ∃ i, m = i + 1 := ⟨m - 1, by omega⟩
    have e : (l.length : Int) > 0 := by omega
    have hw : IntKind.i64.wrap ((l.length : Int) - 1) = ((l.length - 1 : Nat) : Int) := by rw [w64 (by omega) (by omega)]; omega
    have ht : List.drop (Int.toNat 0) (List.take (Int.toNat ((l.length - 1 : Nat) : Int)) l) = l.take (l.length - 1) := by rw [Int.toNat_natCast]; rfl
    have hc : (0 : Int) ≤ 0 ∧ 0 ≤ ((l.length - 1 : Nat) : Int) ∧ ((l.length - 1 : Nat) : Int) ≤ (l.length : Int) := ⟨by omega, by omega, by omega⟩
    simp only [nat_cut_l0, cond_t e, hw, if_pos (Int.natCast_nonneg (l.length - 1)), Int.toNat_natCast, gd (show l.length - 1 < l.length by omega), Option.bind_some]
    by_cases hz : l.getD (l.length - 1) 0 = 0
    · rw [beq_t hz, cond_true, if_pos hc]
      rw [show List.drop (Int.toNat 0) (List.take (l.length - 1) l) = l.take (l.length - 1) from rfl]
      rw [ih (l.take (l.length - 1)) m (by rw [List.length_take]; omega) (by omega) (U_take h _) (by omega), val_take_last (by omega) hz]
    · rw [beq_f hz, cond_false, lim_of_norm h (fun _ => hz)]
theorem cut_eq (l : List Int) (h : U l) (hb : l.length ≤ 1073741824) (k : Nat) (hk : l.length + 1 ≤ k) : nat_cut k l = some (lim (val l), ()) := by
  simp only [nat_cut]
  rw [cut_l0 k l.length l k rfl (by omega) h hb]
  rfl
theorem cut_ev (l : List Int) (h : U l) (hb : l.length ≤ 1073741824) : ∃ K, ∀ k, K ≤ k → nat_cut k l = some (lim (val l), ()) := ⟨l.length + 1, fun k hk => cut_eq l h hb k hk⟩
theorem trim_ev (l : List Int) (h : U l) (hb : l.length ≤ 1073741824) : ∃ K, ∀ k, K ≤ k → nat_Trim k l = some (lim (val l), ()) := by
  refine ⟨l.length + 1, fun k hk => ?_⟩
  have hl := lim_len (val_nonneg h) l.length (val_lt h)
  simp only [nat_Trim]
  rw [cut_eq l h hb k hk, Option.bind_some, if_pos (show (lim (val l)).length * 4 ≤ 140737488355328 by omega)]
theorem shrR32 {x : Int} {s : Nat} (hs : s ≤ 32) : Int.fdiv x (2 ^ min (Int.toNat (s : Int)) IntKind.u32.bits) = x / 2 ^ s := by
  rw [Int.toNat_natCast, show IntKind.u32.bits = 32 from rfl, Nat.min_eq_left hs, Int.fdiv_eq_ediv_of_nonneg _ (by have := p2_pos s; omega)]
theorem shr8' (x : Int) : Int.fdiv x (2 ^ min (Int.toNat 8) IntKind.u32.bits) = x / 256 := shrR32 (s := 8) (by decide)
theorem shr16' (x : Int) : Int.fdiv x (2 ^ min (Int.toNat 16) IntKind.u32.bits) = x / 65536 := shrR32 (s := 16) (by decide)
theorem shr31' (x : Int) : Int.fdiv x (2 ^ min (Int.toNat 31) IntKind.u32.bits) = x / 2147483648 := shrR32 (s := 31) (by decide)
theorem len32 (k : Nat) {x : Int} (h0 : 0 ≤ x) (h1 : x < 4294967296) : bits_Len32 k x = some (bl x, ()) := by
  have b8 : ∀ y : Int, 0 ≤ y → y < 256 → 0 ≤ bl y ∧ bl y ≤ 8 := fun y _ hy => ⟨bl_nonneg y, bl_le (m := 8) hy⟩
  simp only [bits_Len32, shr8', shr16', cond_eq_ite, decide_eq_true_eq]
  have look : ∀ (z c : Int) (j : Nat), 0 ≤ z → z < 256 → c = j → j ≤ 56 → x / 2 ^ j = z → (j = 0 ∨ 0 < z) →
      (if 0 ≤ IntKind.u8.wrap z then (bytes0[Int.toNat (IntKind.u8.wrap z)]?).bind fun y1 => (some (IntKind.i64.wrap (c + IntKind.i64.wrap (y1.toNat : Int)), ()) : Option (HL [(.int .i64)])) else none) = some (bl x, ()) := by
    intro z c j z0 z1 hc hj hx hp
    obtain ⟨y, hy, e⟩ := tab_get z0 z1
    have hb := b8 z z0 z1
    rw [u8w z0 z1, if_pos z0, hy, Option.bind_some, e, w64 (x := bl z) (by omega) (by omega), w64 (by omega) (by omega), hc]
    have ee : (j : Int) + bl z = bl x := by
      rcases hp with rfl | hp
      · rw [Int.pow_zero, Int.ediv_one] at hx; rw [hx]; simp
      · rw [bl_shift (x := x) j (by rw [hx]; exact hp), hx]
    rw [ee]
  by_cases c2 : x ≥ 65536
  · rw [if_pos c2]
    by_cases c3 : x / 65536 ≥ 256
    · rw [if_pos c3]; exact look _ _ 24 (by omega) (by omega) (by decide) (by omega) (by omega) (.inr (by omega))
    · rw [if_neg c3]; exact look _ _ 16 (by omega) (by omega) (by decide) (by omega) (by omega) (.inr (by omega))
  · rw [if_neg c2]
    by_cases c3 : x ≥ 256
    · rw [if_pos c3]; exact look _ _ 8 (by omega) (by omega) (by decide) (by omega) (by omega) (.inr (by omega))
    · rw [if_neg c3]; exact look _ _ 0 (by omega) (by omega) (by decide) (by omega) (by omega) (.inl rfl)
theorem len_ev (l : List Int) (h : U l) (hb : l.length ≤ 1073741824) : ∃ K, ∀ k, K ≤ k → nat_Len k l = some (bl (val l), ()) := by
  obtain ⟨K, hK⟩ := cut_ev l h hb
  have hn := val_nonneg h
  have hl := lim_len hn l.length (val_lt h)
  by_cases h0 : val l = 0
  · refine ⟨K, fun k hk => ?_⟩
    simp only [nat_Len]
    rw [hK k hk, Option.bind_some, h0, show lim 0 = [] from limN_zero]
    rfl
  · have hpos : 0 < val l := by omega
    have h1 : 0 < (lim (val l)).length := by
      by_cases hq : (lim (val l)).length = 0
      · exact absurd ((lim_nil_iff hn).1 hq) h0
      · omega
    have hu := U_getD (U_lim hn) ((lim (val l)).length - 1)
    have e1 := val_top hpos
    have hlast := lim_last hpos
    have e2 := bl_shift (x := val l) (32 * ((lim (val l)).length - 1)) (by rw [← p2_limb, e1]; omega)
    rw [← p2_limb, e1] at e2
    have e3 := bl_le (n := (lim (val l)).getD ((lim (val l)).length - 1) 0) (m := 32) hu.2
    have e4 := bl_nonneg ((lim (val l)).getD ((lim (val l)).length - 1) 0)
    refine ⟨K, fun k hk => ?_⟩
    have w1 : IntKind.i64.wrap (((lim (val l)).length : Int) - 1) = (((lim (val l)).length - 1 : Nat) : Int) := by rw [w64 (by omega) (by omega)]; omega
    have w2 : IntKind.i64.wrap (32 * (((lim (val l)).length - 1 : Nat) : Int)) = 32 * (((lim (val l)).length - 1 : Nat) : Int) := w64 (by omega) (by omega)
    have e5 : ¬ ((lim (val l)).length : Int) = 0 := by omega
    simp only [nat_Len]
    rw [hK k (by omega), Option.bind_some, beq_f e5, cond_false, w1, if_pos (Int.natCast_nonneg _), Int.toNat_natCast, gd (show (lim (val l)).length - 1 < (lim (val l)).length by omega), Option.bind_some, len32 k hu.1 hu.2, Option.bind_some, w2, w64 (by omega) (by omega), e2]
    rfl
theorem cmp_l0 (k : Nat) (a b : List Int) (ha : U a) (hb : U b) (hl : a.length = b.length) (hc : a.length ≤ 1073741824) : ∀ (d m i : Nat), i + d = a.length → d < m → a.drop d = b.drop d →
    nat_Cmp_l0 k m ((a, b, (a.length : Int), (i : Int), ()), ()) = some (if sgz (val a - val b) = 0 then Sum.inr (Sum.inl ((), ())) else Sum.inl ((sgz (val a - val b), ()), ())) := by
  intro d
  induction d with
  | zero =>
    intro m i hi hm he
    obtain ⟨m, rfl⟩ : ∃ i, m = i + 1 := ⟨m - 1, by omega⟩
    have e : ¬ (i : Int) < (a.length : Int) := by omega
    rw [List.drop_zero, List.drop_zero] at he
    simp only [nat_Cmp_l0, cond_f e]
    rw [he, Int.sub_self, sgz_zero, if_pos rfl]
  | succ n ih =>
    intro m i hi hm he
    obtain ⟨m, rfl⟩ : ∃ i, m = i + 1 := ⟨m - 1, by omega⟩
    have e : (i : Int) < (a.length : Int) := by omega
    have w : IntKind.i64.wrap (IntKind.i64.wrap ((a.length : Int) - 1) - (i : Int)) = (n : Int) := by rw [w64 (x := (a.length : Int) - 1) (by omega) (by omega), w64 (by omega) (by omega)]; omega
    simp only [nat_Cmp_l0, cond_t e, w, if_pos (Int.natCast_nonneg n), Int.toNat_natCast, gd (show n < a.length by omega), gd (show n < b.length by omega), Option.bind_some, wsu (show i < 4611686018427387904 by omega)]
    rcases Int.lt_trichotomy (a.getD n 0) (b.getD n 0) with hlt | heq | hgt
    · have := val_lt_top ha hb (k := n) (by omega) (by omega) he hlt
      rw [cond_t hlt, sgz_neg (by omega), if_neg (by decide)]
    · have h1 : ¬ a.getD n 0 < b.getD n 0 := by omega
      have h2 : ¬ a.getD n 0 > b.getD n 0 := by omega
      rw [cond_f h1, cond_f h2]
      exact ih m (i + 1) (by omega) (by omega) (by rw [drop_eq (by omega), drop_eq (l := b) (by omega), heq, he])
    · have := val_lt_top hb ha (k := n) (by omega) (by omega) he.symm hgt
      have h1 : ¬ a.getD n 0 < b.getD n 0 := by omega
      rw [cond_f h1, cond_t hgt, sgz_pos (by omega), if_neg (by decide)]
theorem cmp_ev (a b : List Int) (ha : U a) (hb : U b) (hla : a.length ≤ 1073741824) (hlb : b.length ≤ 1073741824) : ∃ K, ∀ k, K ≤ k → nat_Cmp k a b = some (sgz (val a - val b), ()) := by
  obtain ⟨K1, h1⟩ := cut_ev a ha hla
  obtain ⟨K2, h2⟩ := cut_ev b hb hlb
  have na := val_nonneg ha
  have nb := val_nonneg hb
  have la := lim_len na a.length (val_lt ha)
  have lb := lim_len nb b.length (val_lt hb)
  refine ⟨K1 + K2 + a.length + 2, fun k hk => ?_⟩
  rcases Nat.lt_trichotomy (lim (val a)).length (lim (val b)).length with hlt | heq | hgt
  · have := lim_len_lt na hlt
    have e2 : ((lim (val a)).length : Int) < ((lim (val b)).length : Int) := by omega
    simp only [nat_Cmp, h1 k (by omega), h2 k (by omega), Option.bind_some, cond_t e2]
    rw [sgz_neg (by omega)]
  · have e1 : ¬ ((lim (val a)).length : Int) < ((lim (val b)).length : Int) := by omega
    have e2 : ¬ ((lim (val a)).length : Int) > ((lim (val b)).length : Int) := by omega
    have h3 := cmp_l0 k (lim (val a)) (lim (val b)) (U_lim na) (U_lim nb) heq (by omega) (lim (val a)).length k 0 (by omega) (by omega) (by rw [List.drop_length, heq, List.drop_length])
    rw [val_lim na, val_lim nb, show ((0 : Nat) : Int) = 0 from rfl] at h3
    simp only [nat_Cmp, h1 k (by omega), h2 k (by omega), Option.bind_some, cond_f e1, cond_f e2]
    rw [h3]
    by_cases hs : sgz (val a - val b) = 0
    · rw [if_pos hs, hs]; rfl
    · rw [if_neg hs]; rfl
  · have := lim_len_lt nb hgt
    have e1 : ¬ ((lim (val a)).length : Int) < ((lim (val b)).length : Int) := by omega
    have e2 : ((lim (val a)).length : Int) > ((lim (val b)).length : Int) := by omega
    simp only [nat_Cmp, h1 k (by omega), h2 k (by omega), Option.bind_some, cond_f e1, cond_t e2]
    rw [sgz_pos (by omega)]
theorem add32 (k : Nat) {x y c : Int} (hx : 0 ≤ x ∧ x < 4294967296) (hy : 0 ≤ y ∧ y < 4294967296) (hc : 0 ≤ c ∧ c ≤ 1) : bits_Add32 k x y c = some ((x + y + c) % 4294967296, (x + y + c) / 4294967296, ()) := by
  simp only [bits_Add32, shr32]
  rw [u64w (x := x) (by omega) (by omega), u64w (x := y) (by omega) (by omega), u64w (x := c) (by omega) (by omega), u64w (x := x + y) (by omega) (by omega), u64w (x := x + y + c) (by omega) (by omega), u32w (x := (x + y + c) / 4294967296) (by omega) (by omega)]
  have e : IntKind.u32.wrap (x + y + c) = (x + y + c) % 4294967296 := by rw [IntKind.wrap_u32]
  rw [e]
theorem add_l0 (k : Nat) (a b : List Int) (ha : U a) (hb : U b) (hl : b.length ≤ a.length) (hc : a.length ≤ 1073741823) :
    ∀ (d m i : Nat) (o : List Int) (c : Int), d < m → i ≤ a.length → a.length - i = d → U o → o.length = a.length + 1 → 0 ≤ c ∧ c ≤ 1 → val (o.take i) + pw i * c = val (a.take i) + val (b.take i) →
      ∃ o' c', U o' ∧ o'.length = a.length + 1 ∧ 0 ≤ c' ∧ c' ≤ 1 ∧ val (o'.take a.length) + pw a.length * c' = val a + val b ∧ nat_Add_l0 k m ((a, b, (), c, (a.length : Int), (i : Int), ()), (o, ())) = some (Sum.inl ((a, (), c', ()), (o', ()))) := by
  intro d
  induction d with
  | zero =>
    intro m i o c hm hi hd ho hol hcc he
    obtain ⟨m, rfl⟩ : ∃ i, m = i + 1 := ⟨m - 1, by omega⟩
    obtain rfl : i = a.length := by omega
    have e : ¬ (a.length : Int) < (a.length : Int) := by omega
    refine ⟨o, c, ho, hol, hcc.1, hcc.2, by rw [he, List.take_length, take_out b _ hl], ?_⟩
    simp only [nat_Add_l0, cond_f e]
  | succ d ih =>
    intro m i o c hm hi hd ho hol hcc he
    obtain ⟨m, rfl⟩ : ∃ i, m = i + 1 := ⟨m - 1, by omega⟩
    have hai := U_getD ha i
    have hbi := U_getD hb i
    have key : val ((o.set i ((a.getD i 0 + b.getD i 0 + c) % 4294967296)).take (i + 1)) + pw (i + 1) * ((a.getD i 0 + b.getD i 0 + c) / 4294967296) = val (a.take (i + 1)) + val (b.take (i + 1)) := by
      rw [val_set_take (by omega), val_take_succ', val_take_succ', pw_succ]
      exact step_add (Int.emod_add_mul_ediv (a.getD i 0 + b.getD i 0 + c) 4294967296) he
    obtain ⟨o', c', q1, q2, q3, q4, q5, q6⟩ := ih m (i + 1) (o.set i ((a.getD i 0 + b.getD i 0 + c) % 4294967296)) ((a.getD i 0 + b.getD i 0 + c) / 4294967296) (by omega) (by omega) (by omega) (U_set ho i (by omega) (by omega)) (by simpa using hol) (by omega) key
    refine ⟨o', c', q1, q2, q3, q4, q5, ?_⟩
    have e : (i : Int) < (a.length : Int) := by omega
    have h5 := add32 k hai hbi hcc
    simp only [nat_Add_l0, cond_t e, if_pos (Int.natCast_nonneg i), Int.toNat_natCast, gd (show i < a.length by omega), gd (show i < o.length by omega), Option.bind_some, wsu (show i < 4611686018427387904 by omega)]
    by_cases hib : i < b.length
    · have e2 : (i : Int) < (b.length : Int) := by omega
      rw [cond_t e2, gd hib, Option.bind_some, h5]
      exact q6
    · have e2 : ¬ (i : Int) < (b.length : Int) := by omega
      rw [getD_out b i (by omega)] at h5 q6
      rw [cond_f e2, h5]
      exact q6
theorem add_ev (a b : List Int) (ha : U a) (hb : U b) (hla : a.length ≤ 1073741823) (hlb : b.length ≤ 1073741823) : ∃ K, ∀ k, K ≤ k → nat_Add k a b = some (lim (val a + val b), ()) := by
  -- the loop, and what comes behind it
  have fin : ∀ (a b : List Int), U a → U b → b.length ≤ a.length → a.length ≤ 1073741823 → ∃ K, ∀ k, K ≤ k →
      ((nat_Add_l0 k k ((a, b, (), 0, (a.length : Int), 0, ()), (List.replicate (a.length + 1) (0 : Int), ()))).bind fun q11 =>
       Sum.elim (fun z16 =>
         if 0 ≤ (z16.1.1.length : Int) then (z16.2.1[Int.toNat (z16.1.1.length : Int)]?).bind fun _ =>
          (z16.2.1[(Int.toNat (z16.1.1.length : Int))]?).bind fun y18 =>
          (nat_cut k (z16.2.1.set (Int.toNat (z16.1.1.length : Int)) z16.1.2.2.1)).bind fun r19 =>
          some (r19.1, ())
         else none)
        (fun q11' =>
         none) q11) = (some (lim (val a + val b), ()) : Option (HL [(.list (.int .u32))])) := by
    intro a b ha hb hl hc
    refine ⟨a.length + 3, fun k hk => ?_⟩
    obtain ⟨o, c, q1, q2, q3, q4, q5, q6⟩ := add_l0 k a b ha hb hl hc _ k 0 (List.replicate (a.length + 1) 0) 0 (by omega) (by omega) rfl (U_replicate _) (by simp) (by omega) (by simp)
    rw [show ((0 : Nat) : Int) = 0 from rfl] at q6
    erw [q6]
    have hu := U_set q1 a.length (x := c) (by omega) (by omega)
    have hv : val (o.set a.length c) = val a + val b := by
      rw [val_full (n := a.length) (by simpa using q2), take_set, getD_set_self (by omega), q5]
    simp only [Option.bind_some, Sum.elim_inl, if_pos (Int.natCast_nonneg a.length), Int.toNat_natCast, gd (show a.length < o.length by omega)]
    rw [cut_eq _ hu (by simp; omega) k (by simp; omega), hv]
    rfl
  by_cases hc : a.length < b.length
  · obtain ⟨K, hK⟩ := fin b a hb ha (by omega) hlb
    refine ⟨K, fun k hk => ?_⟩
    have e : (a.length : Int) < (b.length : Int) := by omega
    have h := hK k hk
    rw [Int.add_comm] at h
    simp only [nat_Add, cond_t e, wsu (show b.length < 4611686018427387904 by omega)]
    rw [if_pos ⟨trivial, by omega, by rw [Int.toNat_natCast]; omega⟩]
    simp only [Int.toNat_natCast]
    exact h
  · obtain ⟨K, hK⟩ := fin a b ha hb (by omega) hla
    refine ⟨K, fun k hk => ?_⟩
    have e : ¬ (a.length : Int) < (b.length : Int) := by omega
    have h := hK k hk
    simp only [nat_Add, cond_f e, wsu (show a.length < 4611686018427387904 by omega)]
    rw [if_pos ⟨trivial, by omega, by rw [Int.toNat_natCast]; omega⟩]
    simp only [Int.toNat_natCast]
    exact h
/-! ### more of bits -/
theorem bits_xor_gen (k : IntKind) (j : Nat) (hj : j ≤ k.bits) (hk : ∀ n : Int, 0 ≤ n → n < 2 ^ j → k.wrap n = n) (a b : Nat) (ha : a < 2 ^ j) (hb : b < 2 ^ j) :
    Go.bits .xor k a b = ((a ^^^ b : Nat) : Int) := by
  have hp : 2 ^ j ≤ 2 ^ k.bits := Nat.pow_le_pow_right (by decide) hj
  have ha' : a % 2 ^ k.bits = a := Nat.mod_eq_of_lt (Nat.lt_of_lt_of_le ha hp)
  have hb' : b % 2 ^ k.bits = b := Nat.mod_eq_of_lt (Nat.lt_of_lt_of_le hb hp)
  have cast : ∀ n : Nat, n < 2 ^ j → ((n : Nat) : Int) < 2 ^ j := fun n h => by exact_mod_cast h
  simp only [Go.bits, BitVec.ofInt_natCast, BitVec.toNat_xor, BitVec.toNat_ofNat, ha', hb']
  exact hk _ (Int.natCast_nonneg _) (cast _ (Nat.xor_lt_two_pow ha hb))
theorem bits_xor_nat (a b : Nat) (ha : a < 4294967296) (hb : b < 4294967296) : Go.bits .xor .u32 a b = ((a ^^^ b : Nat) : Int) := bits_xor_gen .u32 32 (by decide) wraps_u32 a b ha hb
theorem topb (n : Nat) (h : n < 4294967296) : n / 2147483648 = if n.testBit 31 = true then 1 else 0 := by
  rw [Nat.testBit_eq_decide_div_mod_eq]
  by_cases hq : n / 2 ^ 31 % 2 = 1
  · rw [decide_eq_true hq, if_pos rfl]; omega
  · rw [decide_eq_false hq, if_neg (by simp)]; omega
theorem topd (n : Nat) (h : n < 4294967296) : n.testBit 31 = decide (2147483648 ≤ n) := by
  rw [Nat.testBit_eq_decide_div_mod_eq]
  congr 1
  apply propext
  omega
theorem step_mul {V P Q x y old c r q W S : Int} (e : r + 4294967296 * q = x * y + old + c) : V + P * Q * (r - old) + 4294967296 * (P * Q) * q + P * x * (W - (S + Q * y)) = V + P * Q * c + P * x * (W - S) := by
  have h : P * Q * (r + 4294967296 * q) = P * Q * (x * y + old + c) := by rw [e]
  grind
theorem or_low {i : Nat} {s m : Int} (hi : i ≤ 32) (h0 : 0 ≤ s) (h1 : s < 2 ^ i) (hm0 : 0 ≤ m) (hm1 : m < 4294967296) (hm : m % 2 ^ i = 0) : Go.bits .or .u32 s m = s + m := by
  have h2 : s < 2 ^ 32 := Int.lt_of_lt_of_le h1 (p2_mono hi)
  rw [bits_or_comm, bits_join .u32 32 (by decide) wraps_u32 i m s hm0 hm hm1 h0 h1 h2, Int.add_comm]
theorem or_zero {m : Int} (hm0 : 0 ≤ m) (hm1 : m < 4294967296) : Go.bits .or .u32 0 m = m := by
  have := bits_join .u32 32 (by decide) wraps_u32 32 0 m (by decide) (by decide) (by decide) hm0 hm1 hm1
  omega
theorem mod_mod_p2 {x : Int} {s : Nat} (hs : s ≤ 32) : (x * 2 ^ s) % 4294967296 % 2 ^ s = 0 := by
  have e : (4294967296 : Int) = 2 ^ s * 2 ^ (32 - s) := by rw [← p2_add, show s + (32 - s) = 32 by omega]; rfl
  rw [e, Int.emod_emod_of_dvd _ (Int.dvd_mul_right _ _), Int.mul_emod_left]
theorem div_p2_lt {x : Int} {s : Nat} (hs : s ≤ 32) (h0 : 0 ≤ x) (h1 : x < 4294967296) : x * 2 ^ s / 4294967296 < 2 ^ s := by
  have hp := p2_pos s
  rw [Int.ediv_lt_iff_lt_mul (by decide), Int.mul_comm]
  exact Int.mul_lt_mul_of_pos_left h1 hp
theorem step_shl {V P y q r a A T : Int} (e : r + 4294967296 * q = y) (hy : y = a * T) {L i : Int} (hP : P = L * i) (hV : V = L * T * A) : V + P * r + 4294967296 * P * q = L * T * (A + i * a) := by
  have h : P * (r + 4294967296 * q) = P * y := by rw [e]
  subst hP hy hV
  grind
theorem digit {x0 x1 R : Int} {s : Nat} (hs : s ≤ 32) : (x0 + 4294967296 * (x1 + 4294967296 * R)) / 2 ^ s % 4294967296 = (x0 + x1 * 4294967296) / 2 ^ s % 4294967296 := by
  have e : (4294967296 : Int) = 2 ^ s * 2 ^ (32 - s) := by rw [← p2_add, show s + (32 - s) = 32 by omega]; rfl
  have hp := p2_pos s
  have e2 : x0 + 4294967296 * (x1 + 4294967296 * R) = (x0 + x1 * 4294967296) + 2 ^ s * (4294967296 * (2 ^ (32 - s) * R)) := by
    have : 4294967296 * (4294967296 * R) = 4294967296 * (2 ^ s * 2 ^ (32 - s) * R) := by rw [← e]
    grind
  rw [e2, Int.add_mul_ediv_left _ _ (by omega), Int.add_mul_emod_self_left]
theorem emod_succ (X P : Int) (hP : 0 < P) : X % (4294967296 * P) = X % P + P * (X / P % 4294967296) := by
  have e1 := Int.mul_ediv_add_emod X P
  have e2 := Int.mul_ediv_add_emod (X / P) 4294967296
  have b1 := Int.emod_nonneg X (b := P) (by omega)
  have b2 := Int.emod_lt_of_pos X hP
  have b3 : 0 ≤ X / P % 4294967296 := by omega
  have b4 : X / P % 4294967296 ≤ 4294967295 := by omega
  have e3 : X = (X % P + P * (X / P % 4294967296)) + 4294967296 * P * (X / P / 4294967296) := by
    have : P * (4294967296 * (X / P / 4294967296) + X / P % 4294967296) = P * (X / P) := by rw [e2]
    grind
  have b5 := Int.mul_nonneg (show 0 ≤ P by omega) b3
  have b6 := Int.mul_le_mul_of_nonneg_left b4 (show 0 ≤ P by omega)
  conv => lhs; rw [e3]
  rw [Int.add_mul_emod_self_left, Int.emod_eq_of_lt (by omega) (by omega)]
theorem getD_drop (l : List Int) (L i : Nat) : (l.drop L).getD i 0 = l.getD (L + i) 0 := by
  rw [List.getD_eq_getElem?_getD, List.getElem?_drop, List.getD_eq_getElem?_getD]
/-- A limb of a number that is moved down. -/
theorem shr_digit {d : List Int} (hd : U d) {i : Nat} (hi : i ≤ d.length) {s : Nat} (hs : s ≤ 32) : val d / 2 ^ s / pw i % 4294967296 = (d.getD i 0 + d.getD (i + 1) 0 * 4294967296) / 2 ^ s % 4294967296 := by
  rw [Int.ediv_ediv_of_nonneg (show (0 : Int) ≤ 2 ^ s by have := p2_pos s; omega), Int.mul_comm, ← Int.ediv_ediv_of_nonneg (by have := pw_pos i; omega), val_div hd hi, val_drop', val_drop', digit hs]
/-! ### nat: Sub, Mul, Shl, Shr -/
theorem xorR (a b : Int) : IntKind.u32.wrap (BitVec.toNat (BitVec.ofInt IntKind.u32.bits a ^^^ BitVec.ofInt IntKind.u32.bits b)) = Go.bits .xor .u32 a b := rfl
theorem andR32 (a b : Int) : IntKind.u32.wrap (BitVec.toNat (BitVec.ofInt IntKind.u32.bits a &&& BitVec.ofInt IntKind.u32.bits b)) = Go.bits .and .u32 a b := rfl
theorem orR32 (a b : Int) : IntKind.u32.wrap (BitVec.toNat (BitVec.ofInt IntKind.u32.bits a ||| BitVec.ofInt IntKind.u32.bits b)) = Go.bits .or .u32 a b := rfl
theorem sub32 (k : Nat) {x y c : Int} (hx : 0 ≤ x ∧ x < 4294967296) (hy : 0 ≤ y ∧ y < 4294967296) (hc : 0 ≤ c ∧ c ≤ 1) : bits_Sub32 k x y c = some ((x - y - c) % 4294967296, (if x - y - c < 0 then 1 else 0), ()) := by
  obtain ⟨X, rfl⟩ : ∃ n : Nat, x = n := ⟨x.toNat, by omega⟩
  obtain ⟨Y, rfl⟩ : ∃ n : Nat, y = n := ⟨y.toNat, by omega⟩
  obtain ⟨D, hD⟩ : ∃ n : Nat, (((X : Int) - Y) % 4294967296 - c) % 4294967296 = n := ⟨((((X : Int) - Y) % 4294967296 - c) % 4294967296).toNat, by omega⟩
  have hX : X < 4294967296 := by omega
  have hY : Y < 4294967296 := by omega
  have hDl : D < 4294967296 := by omega
  have hz := Nat.xor_lt_two_pow (n := 32) hX hY
  have hn : ∀ Z : Nat, Z < 4294967296 → (4294967295 ^^^ Z : Nat) < 4294967296 := fun Z h => Nat.xor_lt_two_pow (n := 32) (by decide) h
  have an := fun (p q : Nat) (hp : p < 4294967296) (hq : q < 4294967296) => bits_nat .u32 32 (by decide) wraps_u32 p q hp hq
  have al : ∀ p q : Nat, p < 4294967296 → q < 4294967296 → p &&& q < 4294967296 := fun p q _ hq => Nat.and_lt_two_pow (n := 32) p hq
  have ol : ∀ p q : Nat, p < 4294967296 → q < 4294967296 → p ||| q < 4294967296 := fun p q hp hq => Nat.or_lt_two_pow (n := 32) hp hq
  have c32 : (if IntKind.u32.signed then -1 else IntKind.u32.max) = ((4294967295 : Nat) : Int) := by decide
  have wD : IntKind.u32.wrap (IntKind.u32.wrap ((X : Int) - Y) - c) = (D : Int) := by rw [IntKind.wrap_u32, IntKind.wrap_u32, hD]
  simp only [bits_Sub32, xorR, andR32, orR32, shr31', c32, wD]
  rw [bits_xor_nat _ _ (by decide) hX, bits_xor_nat X Y hX hY, bits_xor_nat _ _ (by decide) hz, (an _ _ (hn _ hX) hY).1, (an _ _ (hn _ hz) hDl).1, (an _ _ (al _ _ (hn _ hX) hY) (al _ _ (hn _ hz) hDl)).2]
  have e := topb _ (ol _ _ (al _ _ (hn _ hX) hY) (al _ _ (hn _ hz) hDl))
  simp only [Nat.testBit_or, Nat.testBit_and, Nat.testBit_xor, topd _ hX, topd _ hY, topd _ hDl, show Nat.testBit 4294967295 31 = true by decide] at e
  have e2 : ∀ n : Nat, ((n : Int) / 2147483648) = ((n / 2147483648 : Nat) : Int) := fun n => by omega
  rw [e2, e]
  have e3 : (X - Y - c) % 4294967296 = (D : Int) := by omega
  rw [e3]
  have e4 : (((if ((true ^^ decide (2147483648 ≤ X)) && decide (2147483648 ≤ Y) || (true ^^ (decide (2147483648 ≤ X) ^^ decide (2147483648 ≤ Y))) && decide (2147483648 ≤ D)) = true then 1 else 0 : Nat)) : Int) = if (X : Int) - Y - c < 0 then 1 else 0 := by
    by_cases h1 : 2147483648 ≤ X <;> by_cases h2 : 2147483648 ≤ Y <;> by_cases h3 : 2147483648 ≤ D <;> simp only [h1, h2, h3, decide_true, decide_false, Bool.xor_true, Bool.xor_false, Bool.not_true, Bool.not_false, Bool.true_and, Bool.false_and, Bool.and_true, Bool.and_false, Bool.or_true, Bool.or_false, Bool.true_or, Bool.false_or, if_true, Bool.false_eq_true, if_false] <;> split <;> omega
  rw [e4]
theorem sub_l0 (k : Nat) (a b : List Int) (ha : U a) (hb : U b) (hl : b.length ≤ a.length) (hc : a.length ≤ 1073741824) (hv : val b ≤ val a) :
    ∀ (d m i : Nat) (o : List Int) (c : Int), d < m → i ≤ a.length → a.length - i = d → U o → o.length = a.length → 0 ≤ c ∧ c ≤ 1 → val (o.take i) - pw i * c = val (a.take i) - val (b.take i) →
      ∃ o', U o' ∧ o'.length = a.length ∧ val o' = val a - val b ∧ nat_Sub_l0 k m ((a, b, (), c, (a.length : Int), (i : Int), ()), (o, ())) = some (Sum.inl (((), ()), (o', ()))) := by
  intro d
  induction d with
  | zero =>
    intro m i o c hm hi hd ho hol hcc he
    obtain ⟨m, rfl⟩ : ∃ i, m = i + 1 := ⟨m - 1, by omega⟩
    obtain rfl : i = a.length := by omega
    rw [List.take_length, take_out b _ hl, ← hol, List.take_length] at he
    have hlt := val_lt ho
    have hp := pw_pos o.length
    have hc0 : c = 0 := by
      rcases (show c = 0 ∨ c = 1 by omega) with h | h
      · exact h
      · subst h; omega
    subst hc0
    have e : ¬ (a.length : Int) < (a.length : Int) := by omega
    refine ⟨o, ho, hol, by omega, ?_⟩
    simp only [nat_Sub_l0, cond_f e]
  | succ d ih =>
    intro m i o c hm hi hd ho hol hcc he
    obtain ⟨m, rfl⟩ : ∃ i, m = i + 1 := ⟨m - 1, by omega⟩
    have hai := U_getD ha i
    have hbi := U_getD hb i
    have hif : (if a.getD i 0 - b.getD i 0 - c < 0 then (1 : Int) else 0) = -((a.getD i 0 - b.getD i 0 - c) / 4294967296) := by split <;> omega
    have key : val ((o.set i ((a.getD i 0 - b.getD i 0 - c) % 4294967296)).take (i + 1)) - pw (i + 1) * (if a.getD i 0 - b.getD i 0 - c < 0 then 1 else 0) = val (a.take (i + 1)) - val (b.take (i + 1)) := by
      rw [val_set_take (by omega), val_take_succ', val_take_succ', pw_succ, hif]
      exact step_sub (Int.emod_add_mul_ediv (a.getD i 0 - b.getD i 0 - c) 4294967296) he
    obtain ⟨o', q1, q2, q3, q4⟩ := ih m (i + 1) (o.set i ((a.getD i 0 - b.getD i 0 - c) % 4294967296)) (if a.getD i 0 - b.getD i 0 - c < 0 then 1 else 0) (by omega) (by omega) (by omega) (U_set ho i (by omega) (by omega)) (by simpa using hol) (by split <;> omega) key
    refine ⟨o', q1, q2, q3, ?_⟩
    have e : (i : Int) < (a.length : Int) := by omega
    have h5 := sub32 k hai hbi hcc
    simp only [nat_Sub_l0, cond_t e, if_pos (Int.natCast_nonneg i), Int.toNat_natCast, gd (show i < a.length by omega), gd (show i < o.length by omega), Option.bind_some, wsu (show i < 4611686018427387904 by omega)]
    by_cases hib : i < b.length
    · have e2 : (i : Int) < (b.length : Int) := by omega
      rw [cond_t e2, gd hib, Option.bind_some, h5]
      exact q4
    · have e2 : ¬ (i : Int) < (b.length : Int) := by omega
      rw [getD_out b i (by omega)] at h5 q4
      rw [cond_f e2, h5]
      exact q4
theorem sub_ev (a b : List Int) (ha : U a) (hb : U b) (hla : a.length ≤ 1073741824) (hlb : b.length ≤ 1073741824) : ∃ K, ∀ k, K ≤ k → nat_Sub k a b = some (if val a < val b then ([], false, ()) else (lim (val a - val b), true, ())) := by
  have na := val_nonneg ha
  have nb := val_nonneg hb
  have la := lim_len na a.length (val_lt ha)
  have lb := lim_len nb b.length (val_lt hb)
  obtain ⟨K1, h1⟩ := cut_ev a ha hla
  obtain ⟨K2, h2⟩ := cut_ev b hb hlb
  obtain ⟨K3, h3⟩ := cmp_ev (lim (val a)) (lim (val b)) (U_lim na) (U_lim nb) (by omega) (by omega)
  rw [val_lim na, val_lim nb] at h3
  by_cases hlt : val a < val b
  · refine ⟨K1 + K2 + K3, fun k hk => ?_⟩
    simp only [nat_Sub]
    rw [h1 k (by omega), Option.bind_some, h2 k (by omega), Option.bind_some, h3 k (by omega), Option.bind_some, sgz_neg (by omega), cond_t (show (-1 : Int) < 0 by decide), if_pos hlt]
  · have hm := lim_len_mono nb (show val b ≤ val a by omega)
    have hs : ¬ sgz (val a - val b) < 0 := by unfold sgz; split <;> (try split) <;> omega
    refine ⟨K1 + K2 + K3 + a.length + 3, fun k hk => ?_⟩
    obtain ⟨o, q1, q2, q3, q4⟩ := sub_l0 k (lim (val a)) (lim (val b)) (U_lim na) (U_lim nb) hm (by omega) (by rw [val_lim na, val_lim nb]; omega) _ k 0 (List.replicate (lim (val a)).length 0) 0 (by omega) (by omega) rfl (U_replicate _) (by simp) (by omega) (by simp)
    rw [val_lim na, val_lim nb] at q3
    rw [show ((0 : Nat) : Int) = 0 from rfl] at q4
    simp only [nat_Sub]
    have hb1 : True ∧ (0 : Int) ≤ ((lim (val a)).length : Int) ∧ ((lim (val a)).length : Int).toNat * 4 ≤ 140737488355328 := ⟨trivial, by omega, by omega⟩
    rw [h1 k (by omega), Option.bind_some, h2 k (by omega), Option.bind_some, h3 k (by omega), Option.bind_some, cond_f hs, if_neg hlt]
    dsimp only
    rw [if_pos hb1, Int.toNat_natCast]
    erw [q4]
    simp only [Option.bind_some, Sum.elim_inl]
    rw [cut_eq o q1 (by omega) k (by omega), q3]
    rfl
theorem wad {i j : Nat} (h : i + j < 4611686018427387904) : IntKind.i64.wrap ((i : Int) + (j : Int)) = ((i + j : Nat) : Int) := by rw [w64 (by omega) (by omega)]; omega
theorem mul_l1 (k : Nat) (a b : List Int) (hb : U b) (i : Nat) (x : Int) (hx : 0 ≤ x ∧ x < 4294967296) (hi : i < 1073741824) (hlb : b.length ≤ 1073741824) :
    ∀ (d m j : Nat) (o : List Int) (c : Int), d < m → j ≤ b.length → b.length - j = d → U o → i + b.length < o.length → 0 ≤ c ∧ c < 4294967296 → o.getD (i + b.length) 0 = 0 →
      ∃ o' c', U o' ∧ o'.length = o.length ∧ 0 ≤ c' ∧ c' < 4294967296 ∧ (∀ q, i + b.length ≤ q → o'.getD q 0 = o.getD q 0) ∧ val o' + pw (i + b.length) * c' = val o + pw (i + j) * c + pw i * x * (val b - val (b.take j)) ∧
        nat_Mul_l1 k m ((b, (), (i : Int), x, c, a, (a.length : Int), (i : Int), b, (b.length : Int), (j : Int), ()), (o, ())) = some (Sum.inl ((b, (), (i : Int), c', a, (a.length : Int), (i : Int), ()), (o', ()))) := by
  intro d
  induction d with
  | zero =>
    intro m j o c hm hj hd ho hol hc hz
    obtain ⟨m, rfl⟩ : ∃ i, m = i + 1 := ⟨m - 1, by omega⟩
    obtain rfl : j = b.length := by omega
    have e : ¬ (b.length : Int) < (b.length : Int) := by omega
    refine ⟨o, c, ho, rfl, hc.1, hc.2, fun q _ => rfl, by rw [List.take_length]; grind, ?_⟩
    simp only [nat_Mul_l1, cond_f e]
  | succ d ih =>
    intro m j o c hm hj hd ho hol hc hz
    obtain ⟨m, rfl⟩ : ∃ i, m = i + 1 := ⟨m - 1, by omega⟩
    have hbj := U_getD hb j
    have hoj := U_getD ho (i + j)
    have hmb := mul_bound hx hbj
    obtain ⟨n, hn⟩ : ∃ n, n = x * b.getD j 0 + o.getD (i + j) 0 + c := ⟨_, rfl⟩
    obtain ⟨o', c', h1, h2, q1, q2, h3, h4, h5⟩ := ih m (j + 1) (o.set (i + j) (n % 4294967296)) (n / 4294967296) (by omega) (by omega) (by omega) (U_set ho _ (by omega) (by omega)) (by simpa using hol) (by omega) (by rw [getD_set_ne (by omega)]; exact hz)
    refine ⟨o', c', h1, by simpa using h2, q1, q2, fun q hq => (h3 q hq).trans (getD_set_ne (by omega) _), ?_, ?_⟩
    · rw [h4, val_set (by omega), val_take_succ', show i + (j + 1) = (i + j) + 1 by omega, pw_succ, pw_add]
      exact step_mul (by rw [← hn]; exact Int.emod_add_mul_ediv n 4294967296)
    · have e : (j : Int) < (b.length : Int) := by omega
      have w0 : IntKind.u64.wrap x = x := u64w hx.1 (by omega)
      have w1 : IntKind.u64.wrap (b.getD j 0) = b.getD j 0 := u64w hbj.1 (by omega)
      have w2 : IntKind.u64.wrap (o.getD (i + j) 0) = o.getD (i + j) 0 := u64w hoj.1 (by omega)
      have w3 : IntKind.u64.wrap (x * b.getD j 0) = x * b.getD j 0 := u64w hmb.1 (by omega)
      have w4 : IntKind.u64.wrap (x * b.getD j 0 + o.getD (i + j) 0) = x * b.getD j 0 + o.getD (i + j) 0 := u64w (by omega) (by omega)
      have w5 : IntKind.u64.wrap (x * b.getD j 0 + o.getD (i + j) 0 + c) = n := by rw [← hn]; exact u64w (by omega) (by omega)
      have w6 : IntKind.u32.wrap n = n % 4294967296 := by rw [IntKind.wrap_u32]
      simp only [nat_Mul_l1, cond_t e, if_pos (Int.natCast_nonneg j), if_pos (Int.natCast_nonneg (i + j)), Int.toNat_natCast, gd (show j < b.length by omega), wad (show i + j < 4611686018427387904 by omega), gd (show i + j < o.length by omega), Option.bind_some, w0, w1, w2, w3, w4, w5, w6, shr32, wsu (show j < 4611686018427387904 by omega)]
      exact h5
theorem mul_l0 (a b : List Int) (ha : U a) (hb : U b) (hl : a.length + b.length ≤ 1073741824) (k : Nat) (hk : b.length + 2 ≤ k) :
    ∀ (d m i : Nat) (o : List Int), d < m → i ≤ a.length → a.length - i = d → U o → o.length = a.length + b.length → (∀ q, i + b.length ≤ q → o.getD q 0 = 0) → val o = val (a.take i) * val b →
      ∃ o', U o' ∧ o'.length = a.length + b.length ∧ val o' = val a * val b ∧ nat_Mul_l0 k m ((b, (), a, (a.length : Int), (i : Int), ()), (o, ())) = some (Sum.inl (((), ()), (o', ()))) := by
  intro d
  induction d with
  | zero =>
    intro m i o hm hi hd ho hol hz hv
    obtain ⟨m, rfl⟩ : ∃ i, m = i + 1 := ⟨m - 1, by omega⟩
    obtain rfl : i = a.length := by omega
    have e : ¬ (a.length : Int) < (a.length : Int) := by omega
    refine ⟨o, ho, hol, by rw [hv, List.take_length], ?_⟩
    simp only [nat_Mul_l0, cond_f e]
  | succ d ih =>
    intro m i o hm hi hd ho hol hz hv
    obtain ⟨m, rfl⟩ : ∃ i, m = i + 1 := ⟨m - 1, by omega⟩
    obtain ⟨o1, c1, h1, h2, q1, q2, h3, h4, h5⟩ := mul_l1 k a b hb i (a.getD i 0) (U_getD ha i) (by omega) (by omega) _ k 0 o 0 (by omega) (by omega) rfl ho (by omega) (by omega) (hz _ (by omega))
    rw [List.take_zero, val_nil] at h4
    have hz1 : o1.getD (i + b.length) 0 = 0 := by rw [h3 _ (by omega)]; exact hz _ (by omega)
    have hv' : val (o1.set (i + b.length) c1) = val (a.take (i + 1)) * val b := by
      rw [val_set (by omega), hz1, Int.sub_zero, h4, hv, val_take_succ']
      grind
    obtain ⟨o', r1, r2, r3, r4⟩ := ih m (i + 1) (o1.set (i + b.length) c1) (by omega) (by omega) (by omega) (U_set h1 _ q1 q2) (by simp; omega) (fun q hq => by rw [getD_set_ne (by omega), h3 q (by omega)]; exact hz q (by omega)) hv'
    refine ⟨o', r1, r2, r3, ?_⟩
    have e : (i : Int) < (a.length : Int) := by omega
    simp only [nat_Mul_l0, cond_t e, if_pos (Int.natCast_nonneg i), Int.toNat_natCast, gd (show i < a.length by omega), Option.bind_some]
    rw [show ((0 : Nat) : Int) = 0 from rfl] at h5
    erw [h5]
    simp only [Option.bind_some, Sum.elim_inl, wad (show i + b.length < 4611686018427387904 by omega), if_pos (Int.natCast_nonneg (i + b.length)), Int.toNat_natCast, gd (show i + b.length < o1.length by omega), u32w q1 q2, wsu (show i < 4611686018427387904 by omega)]
    exact r4
theorem mul_ev (a b : List Int) (ha : U a) (hb : U b) (hl : a.length + b.length ≤ 1073741824) : ∃ K, ∀ k, K ≤ k → nat_Mul k a b = some (lim (val a * val b), ()) := by
  refine ⟨a.length + b.length + 3, fun k hk => ?_⟩
  obtain ⟨o, h1, h2, h3, h4⟩ := mul_l0 a b ha hb hl k (by omega) _ k 0 (List.replicate (a.length + b.length) 0) (by omega) (by omega) rfl (U_replicate _) (by simp) (fun q _ => by
    rw [List.getD_eq_getElem?_getD, List.getElem?_replicate]
    split <;> rfl) (by rw [val_replicate, List.take_zero, val_nil, Int.zero_mul])
  rw [show ((0 : Nat) : Int) = 0 from rfl] at h4
  simp only [nat_Mul, wad (show a.length + b.length < 4611686018427387904 by omega)]
  rw [if_pos ⟨trivial, by omega, by rw [Int.toNat_natCast]; omega⟩, Int.toNat_natCast]
  erw [h4]
  simp only [Option.bind_some, Sum.elim_inl]
  rw [cut_eq o h1 (by omega) k (by omega), h3]
  rfl
/-! ### nat: Shl, Shr -/
theorem mulp_bound {x : Int} {s : Nat} (h0 : 0 ≤ x) (hs : s ≤ 32) (h1 : x < 4294967296) : 0 ≤ x * 2 ^ s ∧ x * 2 ^ s < 18446744073709551616 := by
  have hp := p2_pos s
  have hm := p2_mono hs
  have e32 : (2 : Int) ^ 32 = 4294967296 := rfl
  refine ⟨Int.mul_nonneg h0 (by omega), ?_⟩
  have q1 := Int.mul_le_mul_of_nonneg_right (show x ≤ 4294967295 by omega) (show (0 : Int) ≤ 2 ^ s by omega)
  omega
theorem shl_l0 (a : List Int) (ha : U a) (L s k : Nat) (hs : s < 32) (hl : a.length + L + 1 ≤ 1073741824) :
    ∀ (d m i : Nat) (o : List Int), d < m → i ≤ a.length → a.length - i = d → U o → o.length = a.length + L + 1 → o.getD (i + L) 0 < 2 ^ s → (∀ q, i + L < q → o.getD q 0 = 0) → val o = pw L * 2 ^ s * val (a.take i) →
      ∃ o', U o' ∧ o'.length = a.length + L + 1 ∧ val o' = val a * 2 ^ (32 * L + s) ∧ nat_Shl_l0 k m (((L : Int), (s : Int), (), a, (a.length : Int), (i : Int), ()), (o, ())) = some (Sum.inl (((), ()), (o', ()))) := by
  intro d
  induction d with
  | zero =>
    intro m i o hm hi hd ho hol hsm hz hv
    obtain ⟨m, rfl⟩ : ∃ i, m = i + 1 := ⟨m - 1, by omega⟩
    obtain rfl : i = a.length := by omega
    rw [List.take_length, p2_limb, ← p2_add, Int.mul_comm] at hv
    refine ⟨o, ho, hol, hv, ?_⟩
    have e : ¬ (a.length : Int) < (a.length : Int) := by omega
    simp only [nat_Shl_l0, cond_f e]
  | succ d ih =>
    intro m i o hm hi hd ho hol hsm hz hv
    obtain ⟨m, rfl⟩ : ∃ i, m = i + 1 := ⟨m - 1, by omega⟩
    have hai := U_getD ha i
    have hoi := U_getD ho (i + L)
    obtain ⟨hy0, hy1⟩ := mulp_bound hai.1 (show s ≤ 32 by omega) hai.2
    have hq := div_p2_lt (show s ≤ 32 by omega) hai.1 hai.2
    have hmm := mod_mod_p2 (x := a.getD i 0) (show s ≤ 32 by omega)
    obtain ⟨y, hy⟩ : ∃ y, y = a.getD i 0 * 2 ^ s := ⟨_, rfl⟩
    rw [← hy] at hy0 hy1 hq hmm
    have hor := or_low (show s ≤ 32 by omega) hoi.1 hsm (show 0 ≤ y % 4294967296 by omega) (by omega) hmm
    have h32 := p2_mono (show s ≤ 32 by omega)
    have e32 : (2 : Int) ^ 32 = 4294967296 := rfl
    have hrange : o.getD (i + L) 0 + y % 4294967296 < 4294967296 := by
      have e : (4294967296 : Int) = 2 ^ s * 2 ^ (32 - s) := by rw [← p2_add, show s + (32 - s) = 32 by omega]; rfl
      have hp := p2_pos s
      have hd1 := Int.mul_ediv_add_emod (y % 4294967296) (2 ^ s)
      rw [hmm] at hd1
      have hlt : 2 ^ s * (y % 4294967296 / 2 ^ s) < 2 ^ s * 2 ^ (32 - s) := by omega
      have hlt2 := Int.lt_of_mul_lt_mul_left hlt (by omega)
      have := Int.mul_le_mul_of_nonneg_left (show y % 4294967296 / 2 ^ s + 1 ≤ 2 ^ (32 - s) by omega) (show (0 : Int) ≤ 2 ^ s by omega)
      rw [Int.mul_add] at this
      omega
    have hz1 : (o.set (i + L) (o.getD (i + L) 0 + y % 4294967296)).getD (i + L + 1) 0 = 0 := by rw [getD_set_ne (by omega)]; exact hz _ (by omega)
    have hor2 := or_zero (m := y / 4294967296) (by omega) (by omega)
    have hqm : y / 4294967296 % 4294967296 = y / 4294967296 := by omega
    obtain ⟨o', r1, r2, r3, r4⟩ := ih m (i + 1) ((o.set (i + L) (o.getD (i + L) 0 + y % 4294967296)).set (i + L + 1) (y / 4294967296)) (by omega) (by omega) (by omega)
      (U_set (U_set ho _ (by omega) hrange) _ (by omega) (by omega)) (by simpa using hol)
      (by rw [show i + 1 + L = i + L + 1 by omega, getD_set_self (by simp; omega)]; exact hq)
      (fun q hq => by rw [getD_set_ne (by omega), getD_set_ne (by omega)]; exact hz _ (by omega))
      (by
        rw [val_set (by simp; omega), hz1, val_set (by omega), val_take_succ', pw_succ]
        rw [show o.getD (i + L) 0 + y % 4294967296 - o.getD (i + L) 0 = y % 4294967296 by omega, Int.sub_zero]
        exact step_shl (Int.emod_add_mul_ediv y 4294967296) hy (by rw [Nat.add_comm, pw_add]) hv)
    refine ⟨o', r1, r2, r3, ?_⟩
    have e : (i : Int) < (a.length : Int) := by omega
    have hs0 : ¬ (s : Int) < 0 := by omega
    have w1 : IntKind.u64.wrap (a.getD i 0) = a.getD i 0 := u64w hai.1 (by omega)
    have w2 : IntKind.u64.wrap (a.getD i 0 * 2 ^ min (Int.toNat (s : Int)) IntKind.u64.bits) = y := by rw [shlR (by omega), ← hy]; omega
    have w3 : IntKind.u32.wrap y = y % 4294967296 := by rw [IntKind.wrap_u32]
    have w4 : IntKind.u32.wrap (y / 4294967296) = y / 4294967296 := by rw [IntKind.wrap_u32, hqm]
    simp only [nat_Shl_l0, cond_t e, if_pos (Int.natCast_nonneg i), wad (show i + L < 4611686018427387904 by omega), wsu (show i + L < 4611686018427387904 by omega), wsu (show i < 4611686018427387904 by omega), if_neg hs0, if_pos (Int.natCast_nonneg (i + L)), if_pos (Int.natCast_nonneg (i + L + 1)), Int.toNat_natCast (i + L), Int.toNat_natCast (i + L + 1), Int.toNat_natCast i, gd (show i < a.length by omega), gd (show i + L < o.length by omega), Option.bind_some, w1, w2, w3, orR32, hor, shr32, w4]
    rw [gd (show i + L + 1 < (o.set (i + L) (o.getD (i + L) 0 + y % 4294967296)).length by simp; omega)]
    simp only [Option.bind_some, hz1, hor2]
    exact r4
theorem shl_ev (a : List Int) (n : Int) (ha : U a) (hl : a.length ≤ 536870912) : ∃ K, ∀ k, K ≤ k → nat_Shl k a n = some (lim (shlv (val a) n), ()) := by
  have na := val_nonneg ha
  have la := lim_len na a.length (val_lt ha)
  obtain ⟨K1, h1⟩ := cut_ev a ha (by omega)
  unfold shlv
  by_cases c1 : n < 1
  · refine ⟨K1, fun k hk => ?_⟩
    have hb1 : (lim (val a)).length * 4 ≤ 140737488355328 := by omega
    simp only [nat_Shl]
    rw [h1 k hk, Option.bind_some, cond_t c1, if_pos c1]
    dsimp only
    rw [if_pos hb1]
  · by_cases c2 : n > 16777216
    · refine ⟨K1, fun k hk => ?_⟩
      simp only [nat_Shl]
      rw [h1 k hk, Option.bind_some, cond_f c1, if_neg c1, cond_t c2, if_pos c2, lim_zero]
    · by_cases c3 : val a = 0
      · refine ⟨K1, fun k hk => ?_⟩
        simp only [nat_Shl]
        rw [h1 k hk, Option.bind_some, cond_f c1, if_neg c1, cond_f c2, if_neg c2, c3, lim_zero, Int.zero_mul, lim_zero]
        rfl
      · obtain ⟨m, rfl⟩ : ∃ m : Nat, n = m := ⟨n.toNat, by omega⟩
        refine ⟨K1 + a.length + m + 3, fun k hk => ?_⟩
        obtain ⟨o, q1, q2, q3, q4⟩ := shl_l0 (lim (val a)) (U_lim na) (m / 32) (m % 32) k (by omega) (by omega) _ k 0 (List.replicate ((lim (val a)).length + m / 32 + 1) 0) (by omega) (by omega) rfl (U_replicate _) (by simp)
          (by
            have := p2_pos (m % 32)
            rw [List.getD_eq_getElem?_getD, List.getElem?_replicate]
            split <;> exact this)
          (fun q _ => by
            rw [List.getD_eq_getElem?_getD, List.getElem?_replicate]
            split <;> rfl)
          (by rw [val_replicate, List.take_zero, val_nil, Int.mul_zero])
        rw [val_lim na, show 32 * (m / 32) + m % 32 = m by omega] at q3
        rw [show ((0 : Nat) : Int) = 0 from rfl] at q4
        have hne : ((lim (val a)).length : Int) ≠ 0 := fun h => c3 ((lim_nil_iff na).1 (by omega))
        have hne' : (((lim (val a)).length : Int) == 0) = false := by rw [beq_eq_false_iff_ne]; exact hne
        have w1 : IntKind.i64.wrap (Int.tdiv (m : Int) 32) = ((m / 32 : Nat) : Int) := by rw [Int.tdiv_eq_ediv_of_nonneg (by omega), w64 (by omega) (by omega)]; omega
        have w2 : Int.tmod (m : Int) 32 = ((m % 32 : Nat) : Int) := by rw [Int.tmod_eq_emod_of_nonneg (by omega)]; omega
        have hb1 : ∀ n : Nat, n ≤ 1073741824 → (True ∧ (0 : Int) ≤ (n : Int) ∧ (n : Int).toNat * 4 ≤ 140737488355328) := fun n h => ⟨trivial, by omega, by omega⟩
        simp only [nat_Shl]
        rw [h1 k (by omega), Option.bind_some, cond_f c1, if_neg c1, cond_f c2, if_neg c2]
        simp only [hne', cond_false, w1, w2, wad (show (lim (val a)).length + m / 32 < 4611686018427387904 by omega), wsu (show (lim (val a)).length + m / 32 < 4611686018427387904 by omega)]
        rw [if_pos (hb1 _ (by omega)), Int.toNat_natCast]
        erw [q4]
        simp only [Option.bind_some, Sum.elim_inl]
        rw [cut_eq o q1 (by omega) k (by omega), q3, Int.toNat_natCast]
        rfl
theorem join64 {x y : Int} (hx : 0 ≤ x ∧ x < 4294967296) (hy : 0 ≤ y ∧ y < 4294967296) : Go.bits .or .u64 x (y * 4294967296) = x + y * 4294967296 := by
  have e32 : (2 : Int) ^ 32 = 4294967296 := rfl
  have e64 : (2 : Int) ^ 64 = 18446744073709551616 := rfl
  have hor := bits_join .u64 64 (by decide) wraps_u64 32 (y * 4294967296) x (by omega) (by omega) (by omega) hx.1 (by omega) (by omega)
  rw [bits_or_comm, Int.add_comm] at hor
  exact hor
theorem shr_l0 (a : List Int) (ha : U a) (L s k : Nat) (hs : s < 32) (hL : L ≤ a.length) (hl : a.length ≤ 1073741824) :
    ∀ (d m i : Nat) (o : List Int), d < m → i ≤ a.length - L → a.length - L - i = d → U o → o.length = a.length - L → val (o.take i) = val (a.drop L) / 2 ^ s % pw i →
      ∃ o', U o' ∧ o'.length = a.length - L ∧ val o' = val (a.drop L) / 2 ^ s ∧ nat_Shr_l0 k m ((a, (L : Int), (s : Int), (), ((a.length - L : Nat) : Int), (i : Int), ()), (o, ())) = some (Sum.inl (((), ()), (o', ()))) := by
  have hdl : (a.drop L).length = a.length - L := List.length_drop
  intro d
  induction d with
  | zero =>
    intro m i o hm hi hd ho hol hv
    obtain ⟨m, rfl⟩ : ∃ i, m = i + 1 := ⟨m - 1, by omega⟩
    obtain rfl : i = a.length - L := by omega
    have hlt := val_lt (U_drop ha L)
    have h0 := val_nonneg (U_drop ha L)
    have hp := p2_pos s
    have hle := Int.ediv_le_self (b := 2 ^ s) h0
    have hge := Int.ediv_nonneg h0 (show (0 : Int) ≤ 2 ^ s by omega)
    rw [hdl] at hlt
    rw [Int.emod_eq_of_lt hge (by omega), take_out o _ (by omega)] at hv
    have e : ¬ ((a.length - L : Nat) : Int) < ((a.length - L : Nat) : Int) := by omega
    refine ⟨o, ho, hol, hv, ?_⟩
    simp only [nat_Shr_l0, cond_f e]
  | succ d ih =>
    intro m i o hm hi hd ho hol hv
    obtain ⟨m, rfl⟩ : ∃ i, m = i + 1 := ⟨m - 1, by omega⟩
    have hai := U_getD ha (i + L)
    have hbi := U_getD ha (i + L + 1)
    have hdig := shr_digit (U_drop ha L) (i := i) (by omega) (show s ≤ 32 by omega)
    rw [getD_drop, getD_drop, show L + i = i + L by omega, show L + (i + 1) = i + L + 1 by omega] at hdig
    obtain ⟨z, hz⟩ : ∃ z, z = (a.getD (i + L) 0 + a.getD (i + L + 1) 0 * 4294967296) / 2 ^ s % 4294967296 := ⟨_, rfl⟩
    have hz0 : 0 ≤ z ∧ z < 4294967296 := by omega
    obtain ⟨o', r1, r2, r3, r4⟩ := ih m (i + 1) (o.set i z) (by omega) (by omega) (by omega) (U_set ho _ hz0.1 hz0.2) (by simpa using hol)
      (by rw [val_set_take (by omega), hv, pw_succ, emod_succ _ _ (pw_pos i), hdig, hz])
    refine ⟨o', r1, r2, r3, ?_⟩
    have hor := join64 hai hbi
    have e : (i : Int) < ((a.length - L : Nat) : Int) := by omega
    have hs0 : ¬ (s : Int) < 0 := by omega
    have w1 : IntKind.u64.wrap (a.getD (i + L) 0) = a.getD (i + L) 0 := u64w hai.1 (by omega)
    have w2 : IntKind.u64.wrap (a.getD (i + L + 1) 0) = a.getD (i + L + 1) 0 := u64w hbi.1 (by omega)
    have w3 : IntKind.u64.wrap (a.getD (i + L + 1) 0 * 2 ^ min (Int.toNat 32) IntKind.u64.bits) = a.getD (i + L + 1) 0 * 4294967296 := (shlR (s := 32) (by omega)).trans (by rw [show (2 : Int) ^ 32 = 4294967296 from rfl]; omega)
    simp only [nat_Shr_l0, cond_t e, wad (show i + L < 4611686018427387904 by omega), wsu (show i + L < 4611686018427387904 by omega), wsu (show i < 4611686018427387904 by omega), if_neg hs0, if_pos (Int.natCast_nonneg (i + L)), if_pos (Int.natCast_nonneg (i + L + 1)), if_pos (Int.natCast_nonneg i), Int.toNat_natCast (i + L), Int.toNat_natCast (i + L + 1), Int.toNat_natCast i, gd (show i + L < a.length by omega), gd (show i < o.length by omega), Option.bind_some, w1]
    by_cases hb : i + L + 1 < a.length
    · have e2 : ((i + L + 1 : Nat) : Int) < (a.length : Int) := by omega
      rw [cond_t e2, gd hb, Option.bind_some, w2, w3, orR, hor, shrR (by omega), IntKind.wrap_u32, ← hz]
      exact r4
    · rw [getD_out a (i + L + 1) (by omega), Int.zero_mul, Int.add_zero] at hz
      have e2 : ¬ ((i + L + 1 : Nat) : Int) < (a.length : Int) := by omega
      rw [cond_f e2, shrR (by omega), IntKind.wrap_u32, ← hz]
      exact r4
theorem shr_ev (a : List Int) (n : Int) (ha : U a) (hl : a.length ≤ 1073741824) : ∃ K, ∀ k, K ≤ k → nat_Shr k a n = some (lim (shrv (val a) n), ()) := by
  have na := val_nonneg ha
  have la := lim_len na a.length (val_lt ha)
  obtain ⟨K1, h1⟩ := cut_ev a ha (by omega)
  unfold shrv
  by_cases c1 : n < 1
  · refine ⟨K1, fun k hk => ?_⟩
    have hb1 : (lim (val a)).length * 4 ≤ 140737488355328 := by omega
    simp only [nat_Shr]
    rw [h1 k hk, Option.bind_some, cond_t c1, if_pos c1]
    dsimp only
    rw [if_pos hb1]
  · obtain ⟨m, rfl⟩ : ∃ m : Nat, n = m := ⟨n.toNat, by omega⟩
    have hw : IntKind.i64.wrap (32 * ((lim (val a)).length : Int)) = 32 * ((lim (val a)).length : Int) := w64 (by omega) (by omega)
    by_cases c2 : m ≥ 32 * (lim (val a)).length
    · have hlt := val_lt (U_lim na)
      rw [val_lim na, p2_limb] at hlt
      have hm := p2_mono c2
      have e : (m : Int) ≥ 32 * ((lim (val a)).length : Int) := by omega
      refine ⟨K1, fun k hk => ?_⟩
      simp only [nat_Shr]
      rw [h1 k hk, Option.bind_some, cond_f c1, if_neg c1]
      dsimp only
      rw [hw, cond_t e, Int.toNat_natCast, Int.ediv_eq_zero_of_lt na (by omega), lim_zero]
    · have hL : m / 32 ≤ (lim (val a)).length := by omega
      have e : ¬ (m : Int) ≥ 32 * ((lim (val a)).length : Int) := by omega
      refine ⟨K1 + a.length + 3, fun k hk => ?_⟩
      obtain ⟨o, q1, q2, q3, q4⟩ := shr_l0 (lim (val a)) (U_lim na) (m / 32) (m % 32) k (by omega) hL (by omega) _ k 0 (List.replicate ((lim (val a)).length - m / 32) 0) (by omega) (by omega) rfl (U_replicate _) (by simp)
        (by rw [List.take_zero, val_nil, pw_zero, Int.emod_one])
      rw [← val_div (U_lim na) hL, val_lim na, p2_limb, Int.ediv_ediv_of_nonneg (show (0 : Int) ≤ 2 ^ (32 * (m / 32)) by have := p2_pos (32 * (m / 32)); omega), ← p2_add, show 32 * (m / 32) + m % 32 = m by omega] at q3
      rw [show ((0 : Nat) : Int) = 0 from rfl] at q4
      have w1 : IntKind.i64.wrap (Int.tdiv (m : Int) 32) = ((m / 32 : Nat) : Int) := by rw [Int.tdiv_eq_ediv_of_nonneg (by omega), w64 (by omega) (by omega)]; omega
      have w2 : Int.tmod (m : Int) 32 = ((m % 32 : Nat) : Int) := by rw [Int.tmod_eq_emod_of_nonneg (by omega)]; omega
      have w3 : IntKind.i64.wrap (((lim (val a)).length : Int) - ((m / 32 : Nat) : Int)) = (((lim (val a)).length - m / 32 : Nat) : Int) := by rw [w64 (by omega) (by omega)]; omega
      have hb1 : ∀ n : Nat, n ≤ 1073741824 → (True ∧ (0 : Int) ≤ (n : Int) ∧ (n : Int).toNat * 4 ≤ 140737488355328) := fun n h => ⟨trivial, by omega, by omega⟩
      simp only [nat_Shr]
      rw [h1 k (by omega), Option.bind_some, cond_f c1, if_neg c1]
      dsimp only
      rw [hw, cond_f e]
      simp only [w1, w2, w3, List.length_replicate]
      rw [if_pos (hb1 _ (by omega)), Int.toNat_natCast]
      erw [q4]
      simp only [Option.bind_some, Sum.elim_inl]
      rw [cut_eq o q1 (by omega) k (by omega), q3, Int.toNat_natCast]
      rfl
/-! ### noughts at the end of a number -/
theorem bits_and_nat (a b : Nat) (ha : a < 4294967296) (hb : b < 4294967296) : Go.bits .and .u32 a b = ((a &&& b : Nat) : Int) := by
  have ha' : a % 2 ^ IntKind.u32.bits = a := Nat.mod_eq_of_lt ha
  have hb' : b % 2 ^ IntKind.u32.bits = b := Nat.mod_eq_of_lt hb
  simp only [Go.bits, BitVec.ofInt_natCast, BitVec.toNat_and, BitVec.toNat_ofNat, ha', hb']
  exact wraps_u32 _ (Int.natCast_nonneg _) (by have := Nat.and_le_left (n := a) (m := b); omega)
theorem land_tz {o t : Nat} (ho : o % 2 = 1) (h : o * 2 ^ t < 2 ^ 32) : (o * 2 ^ t) &&& (2 ^ 32 - o * 2 ^ t) = 2 ^ t := by
  obtain ⟨y, hy⟩ : ∃ y, o * 2 ^ t = y + 1 := ⟨o * 2 ^ t - 1, by have := Nat.mul_pos (show 0 < o by omega) (Nat.two_pow_pos t); omega⟩
  have hy2 : y = 2 ^ t * (o - 1) + (2 ^ t - 1) := by
    have p := Nat.two_pow_pos t
    have e : 2 ^ t * (o - 1) + 2 ^ t = o * 2 ^ t := by
      obtain ⟨q, rfl⟩ : ∃ q, o = q + 1 := ⟨o - 1, by omega⟩
      rw [Nat.add_sub_cancel, Nat.add_mul, Nat.one_mul, Nat.mul_comm]
    omega
  apply Nat.eq_of_testBit_eq
  intro i
  have b1 : (2 ^ 32 - o * 2 ^ t).testBit i = (decide (i < 32) && !y.testBit i) := by
    rw [hy]
    exact Nat.testBit_two_pow_sub_succ (by omega) i
  rw [Nat.testBit_and, b1, Nat.testBit_mul_two_pow, Nat.testBit_two_pow, hy2, Nat.testBit_two_pow_mul_add _ (by have := Nat.two_pow_pos t; omega)]
  have i32 : t < 32 := by
    apply Nat.lt_of_not_le
    intro hh
    have := Nat.mul_le_mul (show 1 ≤ o by omega) (Nat.pow_le_pow_right (show 0 < 2 by decide) hh)
    omega
  by_cases h1 : i < t
  · rw [decide_eq_false (show ¬ t ≤ i by omega), decide_eq_false (show ¬ t = i by omega)]
    simp
  · rw [if_neg h1, decide_eq_true (show t ≤ i by omega), Bool.true_and]
    by_cases h2 : i = t
    · subst h2
      rw [decide_eq_true rfl, Nat.sub_self, decide_eq_true i32, Nat.testBit_zero, Nat.testBit_zero, decide_eq_true ho, decide_eq_false (show ¬ (o - 1) % 2 = 1 by omega)]
      rfl
    · rw [decide_eq_false (show ¬ t = i by omega)]
      obtain ⟨m, hm⟩ : ∃ m, i - t = m + 1 := ⟨i - t - 1, by omega⟩
      rw [hm, Nat.testBit_succ, Nat.testBit_succ, show (o - 1) / 2 = o / 2 by omega]
      cases (o / 2).testBit m <;> simp
theorem tz_tab : ∀ t : Fin 32, tz32tab.getD ((((2 ^ t.val : Nat) : Int) * 125613361 % 4294967296 / 134217728).toNat) 0 = (t.val : Int) ∧ 0 ≤ ((2 ^ t.val : Nat) : Int) * 125613361 % 4294967296 / 134217728 ∧ ((2 ^ t.val : Nat) : Int) * 125613361 % 4294967296 / 134217728 < 32 := by decide +kernel
theorem lt_32 {o : Int} {t : Nat} (o0 : 0 < o) (h : o * 2 ^ t < 4294967296) : t < 32 := by
  apply Nat.lt_of_not_le
  intro hh
  have h1 := p2_mono hh
  have h2 := mul_le_p t (show 1 ≤ o by omega)
  rw [show (2 : Int) ^ 32 = 4294967296 by decide] at h1
  omega
theorem wrap64_small {x : Int} (h0 : 0 ≤ x) (h1 : x < 9223372036854775808) : Go.RowKit.wrap64 x = x := by
  unfold Go.RowKit.wrap64; omega
/-- How many noughts there are at a limb's end. -/
theorem tz_limb {x o : Int} {t : Nat} (o0 : 0 < o) (o1 : o % 2 = 1) (hx : x = o * 2 ^ t) (h1 : x < 4294967296) : tz32 x = some (t : Int) := by
  have t32 : t < 32 := lt_32 o0 (by omega)
  obtain ⟨n, rfl⟩ := Int.eq_ofNat_of_zero_le (show 0 ≤ o by omega)
  have hxn : x = ((n * 2 ^ t : Nat) : Int) := by rw [hx]; push_cast; rfl
  have hn1 : n * 2 ^ t < 4294967296 := by omega
  have p := Nat.mul_pos (show 0 < n by omega) (Nat.two_pow_pos t)
  have hand : Go.bits .and .u32 x (-x % 4294967296) = ((2 ^ t : Nat) : Int) := by
    rw [hxn, show -((n * 2 ^ t : Nat) : Int) % 4294967296 = ((4294967296 - n * 2 ^ t : Nat) : Int) by omega, bits_and_nat _ _ hn1 (by omega)]
    congr 1
    exact land_tz (by omega) hn1
  have hix : tz32ix x = ((2 ^ t : Nat) : Int) * 125613361 % 4294967296 / 134217728 := by unfold tz32ix; rw [hand]
  obtain ⟨c0, c1, c2⟩ := tz_tab ⟨t, t32⟩
  unfold tz32
  rw [if_neg (by omega), hix, if_pos ⟨c1, c2⟩, c0, wrap64_small (by omega) (by omega)]
theorem trail_l0 (k : Nat) (l : List Int) (h : U l) (hb : l.length ≤ 1073741824) (n : Nat) : ∀ (m i : Nat) (o : Int) (t : Nat), n < m → n + i = l.length → 0 < o → o % 2 = 1 → val (l.drop i) = o * 2 ^ t →
    dy_trailing_l0 k m ((((32 * i : Nat) : Int), l, (l.length : Int), (i : Int), ()), ()) = some (Sum.inl (((((32 * i + t : Nat) : Int)), ()), ())) := by
  induction n with
  | zero =>
    intro m i o t hm hi o0 o1 hv
    rw [show i = l.length by omega, List.drop_length, val_nil] at hv
    have := Int.mul_pos o0 (p2_pos t)
    omega
  | succ n ih =>
    intro m i o t hm hi o0 o1 hv
    obtain ⟨m, rfl⟩ : ∃ q, m = q + 1 := ⟨m - 1, by omega⟩
    have hv0 := hv
    have hiL : i < l.length := by omega
    have e : (i : Int) < (l.length : Int) := by omega
    rw [val_drop (by omega)] at hv
    obtain ⟨g0, g1⟩ := U_getD h i
    simp only [dy_trailing_l0, cond_t e, if_pos (Int.natCast_nonneg i), Int.toNat_natCast, gd hiL, Option.bind_some, wsu (show i < 4611686018427387904 by omega)]
    by_cases hz : l.getD i 0 = 0
    · rw [hz, Int.zero_add] at hv
      have ht : 32 ≤ t := by
        apply Nat.le_of_not_lt
        intro hh
        have e : (4294967296 : Int) = 2 ^ (32 - t) * 2 ^ t := by rw [← p2_add, show 32 - t + t = 32 by omega]; decide
        rw [e, Int.mul_assoc, Int.mul_comm (2 ^ t), ← Int.mul_assoc] at hv
        have := eq_of_p t hv
        rw [show 32 - t = (31 - t) + 1 by omega, p2_succ, Int.mul_assoc] at this
        omega
      obtain ⟨u, rfl⟩ : ∃ m, t = m + 32 := ⟨t - 32, by omega⟩
      have hv2 : val (l.drop (i + 1)) = o * 2 ^ u := by
        rw [p2_add, show (2 : Int) ^ 32 = 4294967296 by decide, ← Int.mul_assoc] at hv
        omega
      have hK := ih m (i + 1) o u (by omega) (by omega) o0 o1 hv2
      have hzb : (l.getD i 0 != 0) = false := by rw [hz]; rfl
      rw [hzb, cond_false, show IntKind.i64.wrap (((32 * i : Nat) : Int) + 32) = ((32 * (i + 1) : Nat) : Int) by rw [w64 (by omega) (by omega)]; omega, hK, show 32 * (i + 1) + u = 32 * i + (u + 32) by omega]
    · obtain ⟨o', ho'⟩ : ∃ o' : Int, 0 < o' ∧ o' % 2 = 1 ∧ l.getD i 0 = o' * 2 ^ t := by
        have ht : t < 32 := by
          apply Nat.lt_of_not_le
          intro hh
          obtain ⟨m, rfl⟩ : ∃ m, t = m + 32 := ⟨t - 32, by omega⟩
          rw [p2_add, show (2 : Int) ^ 32 = 4294967296 by decide, ← Int.mul_assoc] at hv
          omega
        have e : (4294967296 : Int) = 2 ^ (32 - t) * 2 ^ t := by rw [← p2_add, show 32 - t + t = 32 by omega]; decide
        have e1 : l.getD i 0 = (o - 2 ^ (32 - t) * val (l.drop (i + 1))) * 2 ^ t := by
          rw [Int.sub_mul, ← hv, Int.mul_assoc, Int.mul_comm (val _), ← Int.mul_assoc, ← e]
          omega
        refine ⟨_, pos_of_p t (by rw [← e1]; omega), ?_, e1⟩
        rw [show 32 - t = (31 - t) + 1 by omega, p2_succ, Int.mul_assoc]
        omega
      obtain ⟨q0, q1, q2⟩ := ho'
      have t32 : t < 32 := lt_32 q0 (by omega)
      have hzb : (l.getD i 0 != 0) = true := bne_iff_ne.2 hz
      have hw : w_tz k (l.getD i 0) = some ((t : Int), ()) := by unfold w_tz; rw [tz_limb q0 q1 q2 g1]; rfl
      rw [hzb, cond_true, hw, Option.bind_some]
      dsimp only
      rw [show IntKind.i64.wrap (((32 * i : Nat) : Int) + (t : Int)) = ((32 * i + t : Nat) : Int) by rw [w64 (by omega) (by omega)]; omega]
theorem trail_ev (l : List Int) (h : U l) (hb : l.length ≤ 1073741824) {o : Int} {t : Nat} (o0 : 0 < o) (o1 : o % 2 = 1) (hv : val l = o * 2 ^ t) : ∃ K, ∀ k, K ≤ k → dy_trailing k l = some ((t : Int), ()) := by
  refine ⟨l.length + 1, fun k hk => ?_⟩
  have := trail_l0 k l h hb l.length k 0 o t (by omega) (by omega) o0 o1 (by simpa using hv)
  simp only [dy_trailing]
  erw [this]
  simp only [Option.bind_some, Sum.elim_inl, Nat.mul_zero, Nat.zero_add]
/-- A number's odd part, and how many noughts are at its end. -/
theorem odd_ex {v : Int} (h : 0 < v) : ∃ (o : Int) (t : Nat), 0 < o ∧ o % 2 = 1 ∧ v = o * 2 ^ t := by
  obtain ⟨n, hn⟩ : ∃ n : Nat, n = v.toNat := ⟨_, rfl⟩
  induction n using Nat.strongRecOn generalizing v with
  | ind n ih =>
    by_cases h2 : v % 2 = 1
    · exact ⟨v, 0, h, h2, by simp⟩
    · obtain ⟨o, t, o0, o1, ho⟩ := ih (v / 2).toNat (by omega) (v := v / 2) (by omega) rfl
      refine ⟨o, t + 1, o0, o1, ?_⟩
      rw [p2_succ, ← Int.mul_assoc, Int.mul_comm o 2, Int.mul_assoc, ← ho]
      omega
theorem odd_un {o o' : Int} {t t' : Nat} (o1 : o % 2 = 1) (o1' : o' % 2 = 1) (h : o * 2 ^ t = o' * 2 ^ t') : o = o' ∧ t = t' := by
  have key : ∀ {a b : Int} {s u : Nat}, a % 2 = 1 → a * 2 ^ s = b * 2 ^ u → u ≤ s := by
    intro a b s u ha hh
    apply Nat.le_of_not_lt
    intro hl
    obtain ⟨m, rfl⟩ : ∃ m, u = (m + 1) + s := ⟨u - s - 1, by omega⟩
    rw [p2_add, ← Int.mul_assoc] at hh
    have := eq_of_p s hh
    rw [p2_succ] at this
    have e : b * (2 * 2 ^ m) = 2 * (b * 2 ^ m) := by rw [← Int.mul_assoc, Int.mul_comm b 2, Int.mul_assoc]
    omega
  have e : t = t' := Nat.le_antisymm (key o1' h.symm) (key o1 h)
  subst e
  exact ⟨eq_of_p t h, rfl⟩
/-! ### package whole -/
/-- A number as a sign and limbs. -/
def nw (s : Int) : Bool × List Int := (decide (s < 0), lim s.natAbs)
theorem nw_U (s : Int) : U (nw s).2 := U_lim (by omega)
theorem nw_sg (s : Int) : sg (nw s).1 (val (nw s).2) = s := by
  unfold nw
  simp only
  rw [val_lim (by omega)]
  exact sg_of s
theorem nw_of (neg : Bool) {v : Int} (hv : 0 ≤ v) : (neg && decide (v ≠ 0), lim v) = nw (sg neg v) := by
  unfold nw
  rw [sg_abs neg hv]
  congr 1
  unfold sg
  cases neg
  · simp only [Bool.false_and, Bool.false_eq_true, if_false]; exact (decide_eq_false (by omega)).symm
  · simp only [Bool.true_and, if_true]; rw [decide_eq_decide]; omega
/-- No longer than so many limbs. -/
def B (s : Int) (L : Nat) : Prop := (s.natAbs : Int) < pw L
theorem B_of (neg : Bool) {l : List Int} (h : U l) {L : Nat} (hl : l.length ≤ L) : B (sg neg (val l)) L := by
  unfold B
  rw [sg_abs neg (val_nonneg h)]
  exact Int.lt_of_lt_of_le (val_lt h) (pw_mono hl)
theorem B_len {s : Int} {L : Nat} (h : B s L) : (nw s).2.length ≤ L := lim_len (by omega) L h
theorem B_add {s t : Int} {L M : Nat} (hs : B s L) (ht : B t M) : B (s + t) (max L M + 1) := by
  unfold B at *
  have h5 := pw_mono (show L ≤ max L M by omega)
  have h6 := pw_mono (show M ≤ max L M by omega)
  rw [pw_succ]
  omega
theorem B_neg {s : Int} {L : Nat} (h : B s L) : B (-s) L := by unfold B at *; rw [Int.natAbs_neg]; exact h
theorem B_mul {s t : Int} {L M : Nat} (hs : B s L) (ht : B t M) : B (s * t) (L + M) := by
  unfold B at *
  rw [Int.natAbs_mul, Int.natCast_mul, pw_add]
  have p := pw_pos L
  have e1 := Int.mul_le_mul_of_nonneg_right (show (s.natAbs : Int) ≤ pw L by omega) (show (0 : Int) ≤ t.natAbs by omega)
  have e2 := Int.mul_lt_mul_of_pos_left ht p
  omega
theorem B_mono {s : Int} {L M : Nat} (h : B s L) (hm : L ≤ M) : B s M := Int.lt_of_lt_of_le h (pw_mono hm)
theorem B_le {s t : Int} {L : Nat} (h : B t L) (hs : s.natAbs ≤ t.natAbs) : B s L := by unfold B at *; omega
theorem sgz_sg (neg : Bool) {v : Int} (hv : 0 ≤ v) : sgz (sg neg v) = if v = 0 then 0 else if neg = true then -1 else 1 := by
  unfold sg
  by_cases h : v = 0
  · rw [if_pos h, h]; cases neg <;> rfl
  · rw [if_neg h]
    cases neg
    · exact sgz_pos (by simpa using (by omega : 0 < v))
    · exact sgz_neg (by simp only [if_true]; omega)
theorem make_ev (neg : Bool) (l : List Int) (h : U l) (hb : l.length ≤ 1073741824) : ∃ K, ∀ k, K ≤ k → whole_Make k neg l = some (nw (sg neg (val l)), ()) := by
  obtain ⟨K, hK⟩ := trim_ev l h hb
  refine ⟨K, fun k hk => ?_⟩
  have hn := val_nonneg h
  rw [← nw_of neg hn]
  simp only [whole_Make]
  rw [hK k hk, Option.bind_some]
  cases neg
  · rfl
  · rw [cond_true]
    congr 3
    rw [Bool.true_and, decide_eq_decide]
    have := lim_nil_iff hn
    dsimp only
    omega
theorem sign_ev (neg : Bool) (l : List Int) (h : U l) (hb : l.length ≤ 1073741824) : ∃ K, ∀ k, K ≤ k → whole_Sign k (neg, l) = some (sgz (sg neg (val l)), ()) := by
  obtain ⟨K, hK⟩ := len_ev l h hb
  refine ⟨K, fun k hk => ?_⟩
  have hn := val_nonneg h
  simp only [whole_Sign]
  rw [hK k hk, Option.bind_some, sgz_sg neg hn]
  by_cases z : val l = 0
  · rw [z, if_pos rfl, bl_zero]; rfl
  · have hb := bl_pos (n := val l) (by omega)
    have hb2 : (bl (val l) == 0) = false := by rw [beq_eq_false_iff_ne]; omega
    rw [if_neg z]
    dsimp only
    rw [hb2, cond_false]
    cases neg <;> rfl
theorem neg_ev (b : Bool) (l : List Int) (h : U l) (hb : l.length ≤ 1073741824) : ∃ K, ∀ k, K ≤ k → whole_Neg k (b, l) = some (nw (-sg b (val l)), ()) := by
  obtain ⟨K, hK⟩ := make_ev (!b) l h hb
  rw [sg_neg] at hK
  refine ⟨K, fun k hk => ?_⟩
  simp only [whole_Neg]
  rw [hK k hk, Option.bind_some]
theorem addw_ev (b c : Bool) (l m : List Int) (hl : U l) (hm : U m) (bl : l.length ≤ 100000000) (bm : m.length ≤ 100000000) : ∃ K, ∀ k, K ≤ k → whole_Add k (b, l) (c, m) = some (nw (sg b (val l) + sg c (val m)), ()) := by
  have nl := val_nonneg hl
  have nm := val_nonneg hm
  have ll := val_lt hl
  have lm := val_lt hm
  by_cases h : b = c
  · subst h
    obtain ⟨K1, a⟩ := add_ev l m hl hm (by omega) (by omega)
    obtain ⟨K2, d⟩ := make_ev b (lim (val l + val m)) (U_lim (by omega)) (by have := B_len (B_add (B_of false hl (Nat.le_refl _)) (B_of false hm (Nat.le_refl _))); simp only [sg, nw, Bool.false_eq_true, if_false] at this; rw [Int.natAbs_of_nonneg (by omega)] at this; omega)
    rw [val_lim (by omega)] at d
    refine ⟨K1 + K2, fun k hk => ?_⟩
    simp only [whole_Add]
    have hbb : (b == b) = true := by simp
    rw [hbb, cond_true, a k (by omega), Option.bind_some, d k (by omega), Option.bind_some]
    have e : sg b (val l + val m) = sg b (val l) + sg b (val m) := by unfold sg; split <;> omega
    rw [e]
  · have hq : (b == c) = false := by simpa using h
    have hc : c = !b := by cases b <;> cases c <;> simp_all
    obtain ⟨K1, a⟩ := sub_ev l m hl hm (by omega) (by omega)
    by_cases hlt : val l < val m
    · obtain ⟨K2, a2⟩ := sub_ev m l hm hl (by omega) (by omega)
      rw [if_neg (by omega)] at a2
      rw [if_pos hlt] at a
      obtain ⟨K3, d⟩ := make_ev c (lim (val m - val l)) (U_lim (by omega)) (by have := lim_len (n := val m - val l) (by omega) m.length (by omega); omega)
      rw [val_lim (by omega)] at d
      refine ⟨K1 + K2 + K3, fun k hk => ?_⟩
      simp only [whole_Add]
      rw [hq, cond_false, a k (by omega), Option.bind_some]
      simp only [cond_false]
      rw [a2 k (by omega), Option.bind_some]
      simp only
      rw [d k (by omega), Option.bind_some]
      have e : sg c (val m - val l) = sg b (val l) + sg c (val m) := by subst hc; unfold sg; cases b <;> simp <;> omega
      rw [e]
    · rw [if_neg hlt] at a
      obtain ⟨K3, d⟩ := make_ev b (lim (val l - val m)) (U_lim (by omega)) (by have := lim_len (n := val l - val m) (by omega) l.length (by omega); omega)
      rw [val_lim (by omega)] at d
      refine ⟨K1 + K3, fun k hk => ?_⟩
      simp only [whole_Add]
      rw [hq, cond_false, a k (by omega), Option.bind_some]
      simp only [cond_true]
      rw [d k (by omega), Option.bind_some]
      have e : sg b (val l - val m) = sg b (val l) + sg c (val m) := by subst hc; unfold sg; cases b <;> simp <;> omega
      rw [e]
/-! ### package dy: Make, May, fair -/
/-- May a number be? -/
def mayw (b : Bool) (l : List Int) : Bool := if l.length = 0 then !b else (l.getD (l.length - 1) 0 != 0)
theorem wmay_eq (k : Nat) (b : Bool) (l : List Int) (hb : l.length ≤ 1073741824) : whole_May k (b, l) = some (mayw b l, ()) := by
  simp only [whole_May]
  unfold mayw
  by_cases h : l.length = 0
  · have e : ((l.length : Int) == 0) = true := by rw [beq_iff_eq]; omega
    rw [e, cond_true, if_pos h]
  · have e : ((l.length : Int) == 0) = false := by rw [beq_eq_false_iff_ne]; omega
    have w : IntKind.i64.wrap ((l.length : Int) - 1) = ((l.length - 1 : Nat) : Int) := by rw [w64 (by omega) (by omega)]; omega
    rw [e, cond_false, if_neg h, w, if_pos (Int.natCast_nonneg _), Int.toNat_natCast, gd (by omega), Option.bind_some]
/-- Which number s * 2^e is, as the document has it: with odd limbs, or nought where an exponent is too far. -/
def Dv (d : Dd) (s e : Int) : Prop := (s = 0 ∧ d = (false, [], 0)) ∨ ∃ (o : Int) (t : Nat), 0 < o ∧ o % 2 = 1 ∧ s ≠ 0 ∧ (s.natAbs : Int) = o * 2 ^ t ∧
  d = if -4194304 ≤ e ∧ e ≤ 4194304 ∧ e + t ≤ 4194304 then (decide (s < 0), lim o, e + t) else (false, [], 0)
theorem Dv.ex (s e : Int) : ∃ d, Dv d s e := by
  by_cases h : s = 0
  · exact ⟨_, .inl ⟨h, rfl⟩⟩
  · obtain ⟨o, t, o0, o1, ho⟩ := odd_ex (v := s.natAbs) (by omega)
    exact ⟨_, .inr ⟨o, t, o0, o1, h, ho, rfl⟩⟩
theorem Dv.un {d d' : Dd} {s e : Int} (h : Dv d s e) (h' : Dv d' s e) : d = d' := by
  rcases h with ⟨h0, h⟩ | ⟨o, t, o0, o1, s0, hs, h⟩ <;> rcases h' with ⟨h0', h'⟩ | ⟨o', t', o0', o1', s0', hs', h'⟩
  · rw [h, h']
  · exact absurd h0 s0'
  · exact absurd h0' s0
  · obtain ⟨rfl, rfl⟩ := odd_un o1 o1' (hs.symm.trans hs')
    rw [h, h']
/-- What is made once is not turned by making it again. -/
theorem Dv.again {d : Dd} {s e : Int} (h : Dv d s e) : Dv d (sg d.1 (val d.2.1)) d.2.2 := by
  rcases h with ⟨h0, rfl⟩ | ⟨o, t, o0, o1, s0, hs, rfl⟩
  · exact .inl ⟨rfl, rfl⟩
  · split
    · rename_i hc
      simp only
      rw [val_lim (by omega)]
      refine .inr ⟨o, 0, o0, o1, sg_ne _ o0, by rw [sg_abs _ (by omega)]; simp, ?_⟩
      rw [if_pos ⟨by omega, by omega, by omega⟩, sg_lt _ o0]
      simp
    · exact .inl ⟨rfl, rfl⟩
theorem Dv.U {d : Dd} {s e : Int} (h : Dv d s e) : U d.2.1 := by
  rcases h with ⟨h0, rfl⟩ | ⟨o, t, o0, o1, s0, hs, rfl⟩
  · exact U_nil
  · split
    · exact U_lim (by omega)
    · exact U_nil
theorem Dv.le {d : Dd} {s e : Int} (h : Dv d s e) : val d.2.1 ≤ s.natAbs := by
  rcases h with ⟨h0, rfl⟩ | ⟨o, t, o0, o1, s0, hs, rfl⟩
  · simp
  · split
    · simp only
      rw [val_lim (by omega), hs]
      have := Int.mul_le_mul_of_nonneg_left (show 1 ≤ (2 : Int) ^ t by have := p2_pos t; omega) (show 0 ≤ o by omega)
      omega
    · simp
theorem Dv.len {d : Dd} {s e : Int} {L : Nat} (h : Dv d s e) (hb : B s L) : d.2.1.length ≤ L := by
  have l := h.le
  rcases h with ⟨h0, rfl⟩ | ⟨o, t, o0, o1, s0, hs, rfl⟩
  · simp
  · split at l
    · rename_i hc
      rw [if_pos hc]
      simp only at l ⊢
      rw [val_lim (by omega)] at l
      exact lim_len (by omega) _ (Int.lt_of_le_of_lt l hb)
    · rename_i hc
      rw [if_neg hc]; simp
theorem Dv.E {d : Dd} {s e : Int} (h : Dv d s e) : -4194304 ≤ d.2.2 ∧ d.2.2 ≤ 4194304 := by
  rcases h with ⟨h0, rfl⟩ | ⟨o, t, o0, o1, s0, hs, rfl⟩
  · simp
  · split
    · simp only; omega
    · simp
/-- One that is no nought: its odd limbs. -/
theorem Dv.odd {d : Dd} {s e : Int} (h : Dv d s e) : d = (false, [], 0) ∨ ∃ o : Int, 0 < o ∧ o % 2 = 1 ∧ d.2.1 = lim o := by
  rcases h with ⟨h0, rfl⟩ | ⟨o, t, o0, o1, s0, hs, rfl⟩
  · exact .inl rfl
  · split
    · exact .inr ⟨o, o0, o1, rfl⟩
    · exact .inl rfl
theorem within_eq (k : Nat) (e : Int) : dy_within k e = some (decide (-4194304 ≤ e ∧ e ≤ 4194304), ()) := by
  simp only [dy_within]
  by_cases h : e ≥ -4194304
  · rw [cond_t h]; congr 2; exact decide_eq_decide.2 ⟨fun h2 => ⟨h, h2⟩, fun h2 => h2.2⟩
  · rw [cond_f h, decide_eq_false (fun h2 => h h2.1)]
theorem sgz_ne {x : Int} (h : x ≠ 0) : sgz x ≠ 0 := by
  rcases Int.lt_trichotomy x 0 with h1 | h1 | h1
  · rw [sgz_neg h1]; decide
  · exact absurd h1 h
  · rw [sgz_pos h1]; decide
theorem t_le {l : List Int} (h : U l) {o : Int} {t : Nat} (o0 : 0 < o) (hv : val l = o * 2 ^ t) : t ≤ 32 * l.length := by
  apply Nat.le_of_not_lt
  intro hh
  have h1 := val_lt h
  rw [p2_limb] at h1
  have h2 := p2_mono (show 32 * l.length ≤ t by omega)
  have h3 := mul_le_p t (show 1 ≤ o by omega)
  omega
theorem shr_odd {o : Int} {t : Nat} (o0 : 0 < o) : shrv (o * 2 ^ t) t = o := by
  unfold shrv
  by_cases h : (t : Int) < 1
  · rw [if_pos h, show t = 0 by omega]; simp
  · rw [if_neg h, Int.toNat_natCast, Int.mul_ediv_cancel _ (by have := p2_pos t; omega)]
theorem mk_ev (neg : Bool) (l : List Int) (e : Int) (h : U l) (hb : l.length ≤ 100000000) {d : Dd} (hd : Dv d (sg neg (val l)) e) : ∃ K, ∀ k, K ≤ k → dy_Make k (neg, l) e = some (dd d, ()) := by
  obtain ⟨K1, h1⟩ := sign_ev neg l h (by omega)
  have hn := val_nonneg h
  rcases hd with ⟨hs, rfl⟩ | ⟨o, t, o0, o1, s0, hs, rfl⟩
  · refine ⟨K1 + 1, fun k hk => ?_⟩
    simp only [dy_Make]
    rw [h1 _ (by omega), Option.bind_some, hs, show sgz 0 = 0 from rfl]
    rfl
  · have s1 := sgz_ne s0
    rw [sg_abs neg hn] at hs
    have v0 : 0 < val l := by rw [hs]; exact Int.mul_pos o0 (p2_pos t)
    have tl := t_le h o0 hs
    have tE : IntKind.i64.wrap (e + (t : Int)) = e + t ∨ ¬ (-4194304 ≤ e ∧ e ≤ 4194304) := by
      by_cases hw : -4194304 ≤ e ∧ e ≤ 4194304
      · left; exact w64 (by omega) (by omega)
      · right; exact hw
    obtain ⟨K2, h2⟩ := trail_ev l h (by omega) o0 o1 hs
    obtain ⟨K3, h3⟩ := shr_ev l t h (by omega)
    rw [hs, shr_odd o0] at h3
    have lo : (lim o).length ≤ l.length := lim_len (by omega) _ (by
      have := val_lt h
      have q := Int.mul_le_mul_of_nonneg_left (show 1 ≤ (2 : Int) ^ t by have := p2_pos t; omega) (show 0 ≤ o by omega)
      omega)
    obtain ⟨K4, h4⟩ := make_ev neg (lim o) (U_lim (by omega)) (by omega)
    rw [val_lim (by omega)] at h4
    have hnw : nw (sg neg o) = (decide (sg neg (val l) < 0), lim o) := by
      unfold nw
      rw [sg_lt neg o0, sg_lt neg v0, sg_abs neg (by omega)]
    rw [hnw] at h4
    refine ⟨K1 + K2 + K3 + K4 + 1, fun k hk => ?_⟩
    have s1' : (sgz (sg neg (val l)) == 0) = false := by rw [beq_eq_false_iff_ne]; exact s1
    simp only [dy_Make]
    rw [h1 _ (by omega), Option.bind_some]
    dsimp only
    rw [s1', cond_false, within_eq, Option.bind_some]
    dsimp only
    by_cases hw : -4194304 ≤ e ∧ e ≤ 4194304
    · rw [decide_eq_true hw]
      simp only [Bool.not_true, cond_false]
      rw [h2 k (by omega), Option.bind_some]
      dsimp only
      rw [tE.resolve_right (fun x => x hw), within_eq, Option.bind_some]
      dsimp only
      by_cases hw2 : e + t ≤ 4194304
      · rw [decide_eq_true ⟨by omega, hw2⟩]
        simp only [Bool.not_true, cond_false]
        rw [h3 k (by omega), Option.bind_some]
        dsimp only
        rw [h4 k (by omega), Option.bind_some, if_pos ⟨hw.1, hw.2, hw2⟩]
        rfl
      · rw [decide_eq_false (fun x => hw2 x.2), if_neg (fun x => hw2 x.2.2)]
        rfl
    · rw [decide_eq_false hw, if_neg (fun x => hw ⟨x.1, x.2.1⟩)]
      rfl
theorem val_mod2 {l : List Int} (h : 0 < l.length) : val l % 2 = l.getD 0 0 % 2 := by
  cases l with
  | nil => simp at h
  | cons x l => simp only [val_cons, List.getD_cons_zero]; omega
theorem and1_u32 {x : Int} (h0 : 0 ≤ x) (h1 : x < 4294967296) : Go.bits .and .u32 x 1 = x % 2 := by
  obtain ⟨n, rfl⟩ := Int.eq_ofNat_of_zero_le h0
  have := bits_and_nat n 1 (by omega) (by decide)
  rw [Nat.and_one_is_mod] at this
  exact this
/-- May one be: then it is what it is made. -/
def mayd (neg : Bool) (l : List Int) (e : Int) : Bool := if l.length = 0 then (!neg && e == 0) else (mayw neg l && decide (l.getD 0 0 % 2 = 1) && decide (-4194304 ≤ e ∧ e ≤ 4194304))
theorem dmay_eq (k : Nat) (neg : Bool) (l : List Int) (e : Int) (h : U l) (hb : l.length ≤ 1073741824) : dy_May k ((neg, l), e) = some (mayd neg l e, ()) := by
  simp only [dy_May]
  unfold mayd
  have g := U_getD h 0
  by_cases hl : l.length = 0
  · have e0 : ((l.length : Int) == 0) = true := by rw [beq_iff_eq]; omega
    rw [e0, cond_true, if_pos hl]
    cases neg <;> simp
  · have e0 : ((l.length : Int) == 0) = false := by rw [beq_eq_false_iff_ne]; omega
    rw [e0, cond_false, if_neg hl, wmay_eq k neg l hb, Option.bind_some]
    cases mayw neg l
    · simp
    · simp only [cond_true, show (0 : Int).toNat = 0 from rfl, gd (show 0 < l.length by omega), Option.bind_some, Int.le_refl, if_true, andR32]
      rw [and1_u32 g.1 g.2, within_eq]
      by_cases h1 : l.getD 0 0 % 2 = 1
      · have e1 : (l.getD 0 0 % 2 == 1) = true := by rw [beq_iff_eq]; exact h1
        rw [e1, decide_eq_true h1]; simp
      · have e1 : (l.getD 0 0 % 2 == 1) = false := by rw [beq_eq_false_iff_ne]; exact h1
        rw [e1, decide_eq_false h1]; simp
theorem mayd_dv {neg : Bool} {l : List Int} {e : Int} (h : U l) (hm : mayd neg l e = true) : Dv (neg, l, e) (sg neg (val l)) e := by
  have hn := val_nonneg h
  unfold mayd at hm
  by_cases hl : l.length = 0
  · rw [if_pos hl] at hm
    obtain rfl : l = [] := List.length_eq_zero_iff.1 hl
    cases neg
    · simp at hm; subst hm; exact .inl ⟨rfl, rfl⟩
    · simp at hm
  · rw [if_neg hl] at hm
    simp only [Bool.and_eq_true, decide_eq_true_eq] at hm
    obtain ⟨⟨m1, m2⟩, m3⟩ := hm
    unfold mayw at m1
    rw [if_neg hl] at m1
    have hlim := lim_of_norm h (fun _ => bne_iff_ne.1 m1)
    have v2 := val_mod2 (l := l) (by omega)
    have v0 : 0 < val l := by omega
    refine .inr ⟨val l, 0, v0, by omega, sg_ne neg v0, by rw [sg_abs neg hn]; simp, ?_⟩
    rw [if_pos ⟨m3.1, m3.2, by omega⟩, sg_lt neg v0, hlim]
    simp
theorem dv_mayd {d : Dd} {s e : Int} (h : Dv d s e) : mayd d.1 d.2.1 d.2.2 = true := by
  have hE := h.E
  rcases h.odd with h | ⟨o, o0, o1, h⟩
  · rw [h]; rfl
  · rw [h]
    unfold mayd mayw
    have n := lim_nil_iff (n := o) (by omega)
    have v2 := val_mod2 (l := lim o) (by omega)
    rw [val_lim (by omega)] at v2
    rw [if_neg (by omega), if_neg (by omega), decide_eq_true (show (lim o).getD 0 0 % 2 = 1 by omega), decide_eq_true hE, Bool.and_true, Bool.and_true]
    exact bne_iff_ne.2 (lim_last o0)
theorem dfair_ev (neg : Bool) (l : List Int) (e : Int) (h : U l) (hb : l.length ≤ 100000000) {d : Dd} (hd : Dv d (sg neg (val l)) e) : ∃ K, ∀ k, K ≤ k → dy_fair k ((neg, l), e) = some (dd d, ()) := by
  obtain ⟨K1, h1⟩ := mk_ev neg l e h hb hd
  refine ⟨K1, fun k hk => ?_⟩
  simp only [dy_fair]
  rw [dmay_eq k neg l e h (by omega), Option.bind_some]
  dsimp only
  by_cases hm : mayd neg l e = true
  · rw [hm, cond_true, hd.un (mayd_dv h hm)]; rfl
  · rw [Bool.not_eq_true] at hm
    rw [hm, cond_false, h1 k hk]; rfl
/-! ### package whole: Mul of two -/
theorem mulw_ev (b c : Bool) (l m : List Int) (hl : U l) (hm : U m) (bl : l.length ≤ 100000000) (bm : m.length ≤ 100000000) : ∃ K, ∀ k, K ≤ k → whole_Mul k [(b, l), (c, m)] = some (nw (sg b (val l) * sg c (val m)), ()) := by
  have nl := val_nonneg hl
  have nm := val_nonneg hm
  have np := Int.mul_nonneg nl nm
  have v1 : val [1] = 1 := by simp [val]
  have u1 : U [1] := by intro x hx; simp at hx; subst hx; omega
  have ll := lim_len nl l.length (val_lt hl)
  have hlt : val l * val m < pw (l.length + m.length) := by
    have := B_mul (B_of false hl (Nat.le_refl l.length)) (B_of false hm (Nat.le_refl m.length))
    simp only [B, sg, Bool.false_eq_true, if_false] at this
    omega
  have lp := lim_len np _ hlt
  obtain ⟨K1, h1⟩ := mul_ev [1] l u1 hl (by simp; omega)
  rw [v1, Int.one_mul] at h1
  obtain ⟨K2, h2⟩ := mul_ev (lim (val l)) m (U_lim nl) hm (by omega)
  rw [val_lim nl] at h2
  obtain ⟨K3, h3⟩ := make_ev (!((!(false == b)) == c)) (lim (val l * val m)) (U_lim np) (by omega)
  rw [val_lim np] at h3
  have e : sg (!((!(false == b)) == c)) (val l * val m) = sg b (val l) * sg c (val m) := by cases b <;> cases c <;> simp [sg, Int.mul_neg, Int.neg_mul]
  rw [e] at h3
  refine ⟨K1 + K2 + K3 + 3, fun k hk => ?_⟩
  have loop : ∀ j, 3 ≤ j → whole_Mul_l0 k j (((), false, [1], [(b, l), (c, m)], (([(b, l), (c, m)] : List (Bool × List Int)).length : Int), 0, ()), ((false, []), ())) = some (Sum.inl (((), (!((!(false == b)) == c)), lim (val l * val m), ()), ((false, []), ()))) := by
    intro j hj
    obtain ⟨j, rfl⟩ : ∃ i, j = i + 3 := ⟨j - 3, by omega⟩
    have g1 := h1 k (by omega)
    have g2 := h2 k (by omega)
    simp only [whole_Mul_l0, List.length_cons, List.length_nil]
    have w0 : IntKind.i64.wrap 1 = 1 := by decide
    have w1 : IntKind.i64.wrap 2 = 2 := by decide
    simp [w0, w1, g1, g2]
  simp only [whole_Mul]
  erw [loop k (by omega)]
  simp only [Option.bind_some, Sum.elim_inl]
  rw [h3 k (by omega), Option.bind_some]
/-! ### package dy: exact sums -/
/-- A number as it comes in, of limbs and a power of two: it is S * 2^f, S of no more than N bits. -/
structure Z (n : Bool) (l : List Int) (e f S : Int) (N : Nat) : Prop where
  u : U l
  len : l.length ≤ 70000
  nb : N ≤ 2200000
  fb : f ≤ 0
  lo : f ≤ e
  hi : e ≤ 4194304
  eq : S = sg n (val l) * 2 ^ (e - f).toNat
  bd : (S.natAbs : Int) < 2 ^ N
theorem Rep.un {d d' : Dd} {s f : Int} (h : Rep d s f) (h' : Rep d' s f) : d = d' := by
  rcases h with ⟨h0, h⟩ | ⟨o, t, o0, o1, s0, hs, h⟩ <;> rcases h' with ⟨h0', h'⟩ | ⟨o', t', o0', o1', s0', hs', h'⟩
  · rw [h, h']
  · exact absurd h0 s0'
  · exact absurd h0' s0
  · obtain ⟨rfl, rfl⟩ := odd_un o1 o1' (hs.symm.trans hs')
    rw [h, h']
theorem sg_mulp (n : Bool) (x y : Int) : sg n (x * y) = sg n x * y := by
  unfold sg; split
  · rw [Int.neg_mul]
  · rfl
theorem abs_mulp (s : Int) (j : Nat) : ((s * 2 ^ j).natAbs : Int) = s.natAbs * 2 ^ j := by
  have := p2_pos j
  rw [Int.natAbs_mul, Int.natCast_mul, show ((((2 : Int) ^ j).natAbs : Nat) : Int) = 2 ^ j from Int.natAbs_of_nonneg (by omega)]
theorem abs_le_mulp (s : Int) (j : Nat) : (s.natAbs : Int) ≤ ((s * 2 ^ j).natAbs : Int) := by
  rw [abs_mulp]
  have := Int.mul_le_mul_of_nonneg_left (show 1 ≤ (2 : Int) ^ j by have := p2_pos j; omega) (show 0 ≤ (s.natAbs : Int) by omega)
  omega
theorem Rep.val {d : Dd} {S f : Int} (h : Rep d S f) : (S = 0 ∧ d = (false, [], 0)) ∨ ∃ t : Nat, d.2.2 = f + t ∧ S = sg d.1 (val d.2.1) * 2 ^ t ∧ ∃ o : Int, 0 < o ∧ o % 2 = 1 ∧ d.2.1 = lim o ∧ (S.natAbs : Int) = o * 2 ^ t := by
  rcases h with h | ⟨o, t, o0, o1, s0, hs, rfl⟩
  · exact .inl h
  · refine .inr ⟨t, rfl, ?_, o, o0, o1, rfl, hs⟩
    simp only
    rw [val_lim (by omega), ← sg_mulp, ← hs, sg_of]
theorem Z.of_rep {d : Dd} {S f : Int} {N : Nat} (h : Rep d S f) (hb : (S.natAbs : Int) < 2 ^ N) (hN : N ≤ 2200000) (f0 : -1900000 ≤ f) (f1 : f ≤ 0) : Z d.1 d.2.1 d.2.2 f S N := by
  rcases h.val with ⟨rfl, rfl⟩ | ⟨t, hE, hS, o, o0, o1, ho, hs⟩
  · exact ⟨U_nil, by simp, hN, f1, f1, by simp, by simp [sg], hb⟩
  · have b1 := mul_le_p t (show 1 ≤ o by omega)
    have b2 := Int.mul_le_mul_of_nonneg_left (show 1 ≤ (2 : Int) ^ t by have := p2_pos t; omega) (show 0 ≤ o by omega)
    have ht := p2_lt (show (2 : Int) ^ t < 2 ^ N by omega)
    have hl := len_lim (v := o) (by omega) N (by omega)
    refine ⟨by rw [ho]; exact U_lim (by omega), by rw [ho]; omega, hN, f1, by omega, by omega, ?_, hb⟩
    rw [show (d.2.2 - f).toNat = t by omega]
    exact hS
theorem Z.dv {n : Bool} {l : List Int} {e f S : Int} {N : Nat} (h : Z n l e f S N) (f0 : -1900000 ≤ f) : ∃ d, Rep d S f ∧ Dv d (sg n (val l)) e := by
  have hv := val_nonneg h.u
  have rs : ∀ {d : Dd}, Rep d (sg n (val l)) e → Rep d S f := fun {d} hr => by
    have hj : e = f + ((e - f).toNat : Nat) := by have := h.lo; omega
    have h2 : Rep d (sg n (val l)) (f + ((e - f).toNat : Nat)) := by rw [← hj]; exact hr
    have := h2.scale
    rw [← h.eq] at this
    exact this
  by_cases hz : val l = 0
  · have z : sg n (val l) = 0 := by rw [hz]; cases n <;> rfl
    exact ⟨(false, [], 0), rs (.inl ⟨z, rfl⟩), .inl ⟨z, rfl⟩⟩
  · obtain ⟨o, t, o0, o1, ho⟩ := odd_ex (v := val l) (by omega)
    have nb := h.nb
    have fb := h.fb
    have bd := h.bd
    have ez : (S.natAbs : Int) = o * 2 ^ (t + (e - f).toNat) := by
      rw [h.eq, abs_mulp, sg_abs n hv, ho, Int.mul_assoc, ← p2_add]
    have b1 := mul_le_p (t + (e - f).toNat) (show 1 ≤ o by omega)
    have tl := p2_lt (show (2 : Int) ^ (t + (e - f).toNat) < 2 ^ N by omega)
    have hh := h.hi
    have lo := h.lo
    have s0 := sg_ne n (show 0 < val l by omega)
    have sa := sg_abs n hv
    refine ⟨(decide (sg n (val l) < 0), lim o, e + t), rs (.inr ⟨o, t, o0, o1, s0, by rw [sa, ho], rfl⟩), .inr ⟨o, t, o0, o1, s0, by rw [sa, ho], ?_⟩⟩
    rw [if_pos ⟨by omega, by omega, by omega⟩]
theorem Z.nw {s e f : Int} {N : Nat} (lo : f ≤ e) (hi : e ≤ 4194304) (hN : N ≤ 2200000) (f1 : f ≤ 0) (hb : ((s * 2 ^ (e - f).toNat).natAbs : Int) < 2 ^ N) : Z (nw s).1 (nw s).2 e f (s * 2 ^ (e - f).toNat) N := by
  have h1 := abs_le_mulp s (e - f).toNat
  have hl := len_lim (v := (s.natAbs : Int)) (by omega) N (by omega)
  exact ⟨nw_U _, by show (lim s.natAbs).length ≤ 70000; omega, hN, f1, lo, hi, by rw [nw_sg], hb⟩
theorem fair_z {n : Bool} {l : List Int} {e f S : Int} {N : Nat} (h : Z n l e f S N) (f0 : -1900000 ≤ f) : ∃ d, Rep d S f ∧ ∃ K, ∀ k, K ≤ k → dy_fair k ((n, l), e) = some (dd d, ()) := by
  obtain ⟨d, hd, hv⟩ := h.dv f0
  have := h.len
  exact ⟨d, hd, dfair_ev n l e h.u (by omega) hv⟩
theorem mk_z {n : Bool} {l : List Int} {e f S : Int} {N : Nat} (h : Z n l e f S N) (f0 : -1900000 ≤ f) : ∃ d, Rep d S f ∧ ∃ K, ∀ k, K ≤ k → dy_Make k (n, l) e = some (dd d, ()) := by
  obtain ⟨d, hd, hv⟩ := h.dv f0
  have := h.len
  exact ⟨d, hd, mk_ev n l e h.u (by omega) hv⟩
theorem neg_z {n : Bool} {l : List Int} {e f S : Int} {N : Nat} (h : Z n l e f S N) (hN : N ≤ 2200000) (f0 : -1900000 ≤ f) : ∃ d, Rep d (-S) f ∧ ∃ K, ∀ k, K ≤ k → dy_Neg k ((n, l), e) = some (dd d, ()) := by
  have hl := h.len
  obtain ⟨K1, h1⟩ := neg_ev n l h.u (by omega)
  have eS : -S = -sg n (val l) * 2 ^ (e - f).toNat := by rw [h.eq, Int.neg_mul]
  have z : Z (nw (-sg n (val l))).1 (nw (-sg n (val l))).2 e f (-S) N := by
    rw [eS]
    exact Z.nw h.lo h.hi hN h.fb (by rw [← eS, Int.natAbs_neg]; exact h.bd)
  obtain ⟨d, hd, K2, h2⟩ := mk_z z f0
  refine ⟨d, hd, K1 + K2, fun k hk => ?_⟩
  simp only [dy_Neg]
  rw [h1 k (by omega), Option.bind_some]
  erw [h2 k (by omega)]
  rfl
/-- The sum of two that may be. -/
theorem add_z {p q : Dd} {S T f : Int} {N : Nat} (hp : Rep p S f) (hq : Rep q T f) (hS : (S.natAbs : Int) < 2 ^ N) (hT : (T.natAbs : Int) < 2 ^ N) (hN : N ≤ 2199000) (f0 : -1900000 ≤ f) (f1 : f ≤ 0) :
    ∃ d, Rep d (S + T) f ∧ ∃ K, ∀ k, K ≤ k → dy_add k (dd p) (dd q) = some (dd d, ()) := by
  have key : ∀ {p q : Dd} {S T : Int} {t t' : Nat} {o o' : Int}, p.2.2 = f + t → S = sg p.1 (val p.2.1) * 2 ^ t → (0 < o ∧ o % 2 = 1 ∧ p.2.1 = lim o ∧ (S.natAbs : Int) = o * 2 ^ t) → q.2.2 = f + t' → T = sg q.1 (val q.2.1) * 2 ^ t' →
      (0 < o' ∧ o' % 2 = 1 ∧ q.2.1 = lim o' ∧ (T.natAbs : Int) = o' * 2 ^ t') → (S.natAbs : Int) < 2 ^ N → (T.natAbs : Int) < 2 ^ N → t ≤ t' →
      ∃ d, Rep d (S + T) f ∧ ∃ K, ∀ k, K ≤ k → ((nat_Shl k q.2.1 (IntKind.i64.wrap (q.2.2 - p.2.2))).bind fun t => ((whole_Add k (p.1, p.2.1) (q.1, t.1)).bind fun b => ((dy_Make k b.1 p.2.2).bind fun c => some (c.1, ())))) = some (dd d, ()) := by
    intro p q S T t t' o o' hE eS ho hE' eT ho' hS hT htt
    obtain ⟨j, rfl⟩ := Nat.le.dest htt
    obtain ⟨o0, o1, ho, hs⟩ := ho
    obtain ⟨o0', o1', ho', hs'⟩ := ho'
    have b1 := mul_le_p (t + j) (show 1 ≤ o' by omega)
    have ht := p2_lt (show (2 : Int) ^ (t + j) < 2 ^ N by omega)
    have zp := Z.of_rep (d := p) (.inr ⟨o, t, o0, o1, by intro h0; rw [h0] at hs; have := Int.mul_pos o0 (p2_pos t); simp at hs; omega, hs, by
      have : decide (S < 0) = p.1 := by
        rw [eS, ho, val_lim (by omega), ← sg_mulp]
        exact sg_lt _ (Int.mul_pos o0 (p2_pos t))
      rw [this, ← ho, ← hE]⟩) hS (by omega) f0 f1
    have zq := Z.of_rep (d := q) (.inr ⟨o', t + j, o0', o1', by intro h0; rw [h0] at hs'; have := Int.mul_pos o0' (p2_pos (t + j)); simp at hs'; omega, hs', by
      have : decide (T < 0) = q.1 := by
        rw [eT, ho', val_lim (by omega), ← sg_mulp]
        exact sg_lt _ (Int.mul_pos o0' (p2_pos (t + j)))
      rw [this, ← ho', ← hE']⟩) hT (by omega) f0 f1
    have lp := zp.len
    have lq := zq.len
    obtain ⟨K1, h1⟩ := shl_ev q.2.1 j zq.u (by omega)
    rw [shlv_eq (by omega) (by omega), Int.toNat_natCast] at h1
    have hvq := val_nonneg zq.u
    have v0 : 0 ≤ val q.2.1 * 2 ^ j := Int.mul_nonneg hvq (by have := p2_pos j; omega)
    have ll := len_lim v0 N (by
      have hq2 : val q.2.1 = o' := by rw [ho', val_lim (by omega)]
      rw [hq2]
      have h3 : o' * 2 ^ (t + j) = o' * 2 ^ j * 2 ^ t := by rw [Nat.add_comm, p2_add, Int.mul_assoc]
      have h4 := Int.mul_le_mul_of_nonneg_left (show 1 ≤ (2 : Int) ^ t by have := p2_pos t; omega) (show 0 ≤ o' * 2 ^ j by rw [hq2] at v0; exact v0)
      omega)
    obtain ⟨K2, h2⟩ := addw_ev p.1 q.1 p.2.1 (lim (val q.2.1 * 2 ^ j)) zp.u (U_lim v0) (by omega) (by omega)
    rw [val_lim v0, sg_mulp] at h2
    have eST : S + T = (sg p.1 (val p.2.1) + sg q.1 (val q.2.1) * 2 ^ j) * 2 ^ (p.2.2 - f).toNat := by
      rw [show (p.2.2 - f).toNat = t by omega, Int.add_mul, Int.mul_assoc, ← p2_add, Nat.add_comm j t, ← eS, ← eT]
    have pn := p2_succ N
    have zr : Z (nw (sg p.1 (val p.2.1) + sg q.1 (val q.2.1) * 2 ^ j)).1 (nw (sg p.1 (val p.2.1) + sg q.1 (val q.2.1) * 2 ^ j)).2 p.2.2 f (S + T) (N + 1) := by
      rw [eST]
      exact Z.nw zp.lo zp.hi (by omega) f1 (by rw [← eST]; omega)
    obtain ⟨d, hd, K3, h3⟩ := mk_z zr f0
    refine ⟨d, hd, K1 + K2 + K3, fun k hk => ?_⟩
    rw [show IntKind.i64.wrap (q.2.2 - p.2.2) = (j : Int) by rw [w64 (by omega) (by omega)]; omega, h1 k (by omega), Option.bind_some]
    dsimp only
    rw [h2 k (by omega), Option.bind_some]
    erw [h3 k (by omega)]
    rfl
  rcases hp.val with ⟨rfl, rfl⟩ | ⟨t, hE, eS, o, ho⟩
  · refine ⟨q, by rw [Int.zero_add]; exact hq, 1, fun k hk => ?_⟩
    rfl
  have n1 := lim_nil_iff (n := o) (by have := ho.1; omega)
  have z1 : ((p.2.1.length : Int) == 0) = false := by rw [beq_eq_false_iff_ne, ho.2.2.1]; have := ho.1; omega
  rcases hq.val with ⟨rfl, rfl⟩ | ⟨t', hE', eT, o', ho'⟩
  · refine ⟨p, by rw [Int.add_zero]; exact hp, 1, fun k hk => ?_⟩
    simp only [dy_add, dd]
    rw [z1]
    rfl
  have n2 := lim_nil_iff (n := o') (by have := ho'.1; omega)
  have z2 : ((q.2.1.length : Int) == 0) = false := by rw [beq_eq_false_iff_ne, ho'.2.2.1]; have := ho'.1; omega
  by_cases hc : t ≤ t'
  · obtain ⟨d, hd, K, hK⟩ := key hE eS ho hE' eT ho' hS hT hc
    refine ⟨d, hd, K, fun k hk => ?_⟩
    have c : ¬ p.2.2 > q.2.2 := by omega
    simp only [dy_add, dd]
    rw [z1, z2, cond_false, cond_false]
    exact (cond_f c _ _).trans (hK k hk)
  · obtain ⟨d, hd, K, hK⟩ := key hE' eT ho' hE eS ho hT hS (by omega)
    refine ⟨d, by rw [Int.add_comm]; exact hd, K, fun k hk => ?_⟩
    have c : p.2.2 > q.2.2 := by omega
    simp only [dy_add, dd]
    rw [z1, z2, cond_false, cond_false]
    exact (cond_t c _ _).trans (hK k hk)
theorem abs_add_lt {S T : Int} {N : Nat} (hS : (S.natAbs : Int) < 2 ^ N) (hT : (T.natAbs : Int) < 2 ^ N) : ((S + T).natAbs : Int) < 2 ^ (N + 1) := by
  have := p2_succ N
  omega
theorem abs_mono {S : Int} {N M : Nat} (h : (S.natAbs : Int) < 2 ^ N) (hm : N ≤ M) : (S.natAbs : Int) < 2 ^ M := Int.lt_of_lt_of_le h (p2_mono hm)
theorem abs_neg {S : Int} {N : Nat} (h : (S.natAbs : Int) < 2 ^ N) : ((-S).natAbs : Int) < 2 ^ N := by omega
theorem abs_mul_lt {S T : Int} {N M : Nat} (hS : (S.natAbs : Int) < 2 ^ N) (hT : (T.natAbs : Int) < 2 ^ M) : ((S * T).natAbs : Int) < 2 ^ (N + M) := by
  rw [Int.natAbs_mul, Int.natCast_mul, p2_add]
  have h1 := Int.mul_le_mul_of_nonneg_right (show (S.natAbs : Int) ≤ 2 ^ N by omega) (show 0 ≤ (T.natAbs : Int) by omega)
  have h2 := Int.mul_lt_mul_of_pos_left hT (p2_pos N)
  omega
/-! ### package dy: the sum of a list; differences, signs, orders -/
abbrev DyR := (Bool × List Int) × Int
theorem addl_z (l : List DyR) (f : Int) (N : Nat) (hN : N ≤ 2190000) (hl : l.length ≤ 1000) (f0 : -1900000 ≤ f) (f1 : f ≤ 0) (v : DyR → Int) (hz : ∀ x ∈ l, Z x.1.1 x.1.2 x.2 f (v x) N) (n : Nat) :
    ∀ (i : Nat) (p : Dd) (S : Int) (z : DyR), n + i = l.length → Rep p S f → (S.natAbs : Int) < 2 ^ (N + i) →
    ∃ d, Rep d (S + ((l.drop i).map v).sum) f ∧ (((S + ((l.drop i).map v).sum).natAbs : Int) < 2 ^ (N + l.length)) ∧ ∃ K, ∀ k m, K ≤ k → K ≤ m → dy_Add_l0 k m (((), (), l, (l.length : Int), (i : Int), ()), (z, dd p, ())) = some (Sum.inl (((), (), ()), (z, dd d, ()))) := by
  induction n with
  | zero =>
    intro i p S z hi hp hS
    rw [List.drop_of_length_le (by omega)]
    refine ⟨p, by simpa using hp, by simpa [show l.length = i by omega] using hS, 1, fun k m hk hm => ?_⟩
    obtain ⟨m, rfl⟩ : ∃ q, m = q + 1 := ⟨m - 1, by omega⟩
    have e : ¬ (i : Int) < (l.length : Int) := by omega
    simp only [dy_Add_l0, cond_f e]
  | succ n ih =>
    intro i p S z hi hp hS
    have hli : i < l.length := by omega
    have hm : l[i] ∈ l := List.getElem_mem hli
    have hzi := hz _ hm
    obtain ⟨q, hq, K1, h1⟩ := fair_z hzi f0
    obtain ⟨d, hd, K2, h2⟩ := add_z hp hq hS (abs_mono hzi.bd (show N ≤ N + i by omega)) (by omega) f0 f1
    obtain ⟨r, hr, hb, K3, h3⟩ := ih (i + 1) d (S + v l[i]) z (by omega) hd (abs_add_lt hS (abs_mono hzi.bd (show N ≤ N + i by omega)))
    have es : S + ((l.drop i).map v).sum = S + v l[i] + ((l.drop (i + 1)).map v).sum := by
      rw [List.drop_eq_getElem_cons hli, List.map_cons, List.sum_cons, ← Int.add_assoc]
    refine ⟨r, by rw [es]; exact hr, by rw [es]; exact hb, K1 + K2 + K3 + 1, fun k m hk hm => ?_⟩
    obtain ⟨m, rfl⟩ : ∃ q, m = q + 1 := ⟨m - 1, by omega⟩
    have e : (i : Int) < (l.length : Int) := by omega
    have hg : l[i]? = some l[i] := List.getElem?_eq_getElem hli
    simp only [dy_Add_l0, cond_t e, if_pos (Int.natCast_nonneg i), Int.toNat_natCast, hg, Option.bind_some, wsu (show i < 4611686018427387904 by omega)]
    erw [h1 k (by omega)]
    rw [Option.bind_some]
    dsimp only
    rw [h2 k (by omega), Option.bind_some]
    exact h3 k m (by omega) (by omega)
theorem addn_z (l : List DyR) (f : Int) (N : Nat) (hN : N ≤ 2190000) (hl : l.length ≤ 1000) (f0 : -1900000 ≤ f) (f1 : f ≤ 0) (v : DyR → Int) (hz : ∀ x ∈ l, Z x.1.1 x.1.2 x.2 f (v x) N) :
    ∃ d, Rep d ((l.map v).sum) f ∧ ∃ K, ∀ k, K ≤ k → dy_Add k l = some (dd d, ()) := by
  obtain ⟨p, hp, hb, K, hK⟩ := addl_z l f N hN hl f0 f1 v hz l.length 0 (false, [], 0) 0 ((false, []), 0) (by omega) (.inl ⟨rfl, rfl⟩) (by have := p2_pos (N + 0); simpa using this)
  obtain ⟨d, hd, K2, h2⟩ := mk_z (Z.of_rep hp hb (by omega) f0 f1) f0
  refine ⟨d, by simpa using hd, K + K2, fun k hk => ?_⟩
  have h := hK k k (by omega) (by omega)
  rw [show ((0 : Nat) : Int) = 0 from rfl] at h
  simp only [dy_Add]
  erw [h]
  simp only [Option.bind_some, Sum.elim_inl, dy_own]
  erw [h2 k (by omega)]
  rfl
/-- A number's value at a power, as a function of it. -/
def zval (f : Int) (x : DyR) : Int := sg x.1.1 (val x.1.2) * 2 ^ (x.2 - f).toNat
theorem Z.at_ {n : Bool} {l : List Int} {e f S : Int} {N : Nat} (h : Z n l e f S N) : zval f ((n, l), e) = S := h.eq.symm
theorem Z.self {n : Bool} {l : List Int} {e f S : Int} {N : Nat} (h : Z n l e f S N) : Z n l e f (zval f ((n, l), e)) N := by rw [h.at_]; exact h
theorem add2_z {n n' : Bool} {l l' : List Int} {e e' f S T : Int} {N : Nat} (h : Z n l e f S N) (h' : Z n' l' e' f T N) (hN : N ≤ 2190000) (f0 : -1900000 ≤ f) (f1 : f ≤ 0) :
    ∃ d, Rep d (S + T) f ∧ ∃ K, ∀ k, K ≤ k → dy_Add k [((n, l), e), ((n', l'), e')] = some (dd d, ()) := by
  have := addn_z [((n, l), e), ((n', l'), e')] f N hN (by simp) f0 f1 (zval f) (by simp [h.self, h'.self])
  simpa [h.at_, h'.at_] using this
theorem add3_z {n n' n'' : Bool} {l l' l'' : List Int} {e e' e'' f S T R : Int} {N : Nat} (h : Z n l e f S N) (h' : Z n' l' e' f T N) (h'' : Z n'' l'' e'' f R N) (hN : N ≤ 2190000) (f0 : -1900000 ≤ f) (f1 : f ≤ 0) :
    ∃ d, Rep d (S + T + R) f ∧ ∃ K, ∀ k, K ≤ k → dy_Add k [((n, l), e), ((n', l'), e'), ((n'', l''), e'')] = some (dd d, ()) := by
  have := addn_z [((n, l), e), ((n', l'), e'), ((n'', l''), e'')] f N hN (by simp) f0 f1 (zval f) (by simp [h.self, h'.self, h''.self])
  simpa [h.at_, h'.at_, h''.at_, Int.add_assoc] using this
theorem sub_z {n n' : Bool} {l l' : List Int} {e e' f S T : Int} {N : Nat} (h : Z n l e f S N) (h' : Z n' l' e' f T N) (hN : N ≤ 2190000) (f0 : -1900000 ≤ f) (f1 : f ≤ 0) :
    ∃ d, Rep d (S - T) f ∧ ∃ K, ∀ k, K ≤ k → dy_Sub k ((n, l), e) ((n', l'), e') = some (dd d, ()) := by
  obtain ⟨q, hq, K1, h1⟩ := neg_z h' (by omega) f0
  obtain ⟨d, hd, K2, h2⟩ := add2_z h (Z.of_rep hq (abs_neg h'.bd) (by omega) f0 f1) hN f0 f1
  refine ⟨d, by rw [Int.sub_eq_add_neg]; exact hd, K1 + K2, fun k hk => ?_⟩
  simp only [dy_Sub]
  rw [h1 k (by omega), Option.bind_some]
  erw [h2 k (by omega)]
  rfl
theorem sgz_mulp (s : Int) (j : Nat) : sgz (s * 2 ^ j) = sgz s := by
  have hp := p2_pos j
  rcases Int.lt_trichotomy s 0 with h | h | h
  · rw [sgz_neg h, sgz_neg (Int.mul_neg_of_neg_of_pos h hp)]
  · rw [h, Int.zero_mul]
  · rw [sgz_pos h, sgz_pos (Int.mul_pos h hp)]
theorem sign_z {n : Bool} {l : List Int} {e f S : Int} {N : Nat} (h : Z n l e f S N) (hN : N ≤ 2200000) (f0 : -1900000 ≤ f) (f1 : f ≤ 0) : ∃ K, ∀ k, K ≤ k → dy_Sign k ((n, l), e) = some (sgz S, ()) := by
  obtain ⟨d, hd, K1, h1⟩ := fair_z h f0
  have z := Z.of_rep hd h.bd hN f0 f1
  have hl := z.len
  obtain ⟨K2, h2⟩ := sign_ev d.1 d.2.1 z.u (by omega)
  refine ⟨K1 + K2, fun k hk => ?_⟩
  simp only [dy_Sign]
  rw [h1 k (by omega), Option.bind_some]
  erw [h2 k (by omega)]
  rw [Option.bind_some, z.eq, sgz_mulp]
theorem cmp_z {n n' : Bool} {l l' : List Int} {e e' f S T : Int} {N : Nat} (h : Z n l e f S N) (h' : Z n' l' e' f T N) (hN : N ≤ 2190000) (f0 : -1900000 ≤ f) (f1 : f ≤ 0) :
    ∃ K, ∀ k, K ≤ k → dy_Cmp k ((n, l), e) ((n', l'), e') = some (sgz (S - T), ()) := by
  obtain ⟨d, hd, K1, h1⟩ := sub_z h h' hN f0 f1
  obtain ⟨K2, h2⟩ := sign_z (Z.of_rep hd (by rw [Int.sub_eq_add_neg]; exact abs_add_lt h.bd (abs_neg h'.bd)) (by omega) f0 f1) (by omega) f0 f1
  refine ⟨K1 + K2, fun k hk => ?_⟩
  simp only [dy_Cmp]
  rw [h1 k (by omega), Option.bind_some]
  erw [h2 k (by omega)]
  rfl
/-! ### products, with wide bounds -/
theorem Rep.hi_e {d : Dd} {S f : Int} {N : Nat} (hr : Rep d S f) (hb : (S.natAbs : Int) < 2 ^ N) (f1 : f ≤ 0) : d.2.2 ≤ max 0 (f + N) ∧ (d.2.2 < f + N ∨ S = 0 ∧ d = (false, [], 0)) := by
  rcases hr.val with ⟨rfl, rfl⟩ | ⟨t, hE, hS, o, o0, o1, ho, hs⟩
  · exact ⟨by simp; omega, .inr ⟨rfl, rfl⟩⟩
  · have b1 := mul_le_p t (show 1 ≤ o by omega)
    have ht := p2_lt (show (2 : Int) ^ t < 2 ^ N by omega)
    exact ⟨by omega, .inl (by omega)⟩
theorem mul_z {n n' : Bool} {l l' : List Int} {e e' f g S T : Int} {N M : Nat} (h : Z n l e f S N) (h' : Z n' l' e' g T M) (hN : N + M ≤ 2190000) (hfg : f + g + N + M ≤ 4000000) (f1 : f ≤ 0) (fg0 : -1900000 ≤ f + g) (g1 : g ≤ 0) :
    ∃ d, Rep d (S * T) (f + g) ∧ ∃ K, ∀ k, K ≤ k → dy_Mul k ((n, l), e) ((n', l'), e') = some (dd d, ()) := by
  obtain ⟨p, hp, K1, h1⟩ := fair_z h (by omega)
  obtain ⟨q, hq, K2, h2⟩ := fair_z h' (by omega)
  have zp := Z.of_rep hp h.bd (by omega) (by omega) f1
  have zq := Z.of_rep hq h'.bd (by omega) (by omega) g1
  have lp := zp.len
  have lq := zq.len
  have p0 := zp.lo
  have q0 := zq.lo
  have ep := hp.hi_e h.bd f1
  have eq_ := hq.hi_e h'.bd g1
  obtain ⟨K3, h3⟩ := mulw_ev p.1 q.1 p.2.1 q.2.1 zp.u zq.u (by omega) (by omega)
  have eST : S * T = sg p.1 (val p.2.1) * sg q.1 (val q.2.1) * 2 ^ (p.2.2 + q.2.2 - (f + g)).toNat := by
    have a1 := zp.eq
    have a2 := zq.eq
    rw [show (p.2.2 + q.2.2 - (f + g)).toNat = (p.2.2 - f).toNat + (q.2.2 - g).toNat by omega, p2_add]
    rw [a1, a2]
    generalize sg p.1 (val p.2.1) = x
    generalize sg q.1 (val q.2.1) = y
    generalize (2 : Int) ^ (p.2.2 - f).toNat = u
    generalize (2 : Int) ^ (q.2.2 - g).toNat = v
    rw [Int.mul_assoc, Int.mul_left_comm u y v, ← Int.mul_assoc]
  have bST := abs_mul_lt h.bd h'.bd
  have zr : Z (nw (sg p.1 (val p.2.1) * sg q.1 (val q.2.1))).1 (nw (sg p.1 (val p.2.1) * sg q.1 (val q.2.1))).2 (p.2.2 + q.2.2) (f + g) (S * T) (N + M) := by
    rw [eST]
    exact Z.nw (by omega) (by omega) (by omega) (by omega) (by rw [← eST]; exact bST)
  obtain ⟨d, hd, K4, h4⟩ := mk_z zr (by omega)
  refine ⟨d, hd, K1 + K2 + K3 + K4, fun k hk => ?_⟩
  simp only [dy_Mul]
  rw [h1 k (by omega), Option.bind_some, h2 k (by omega), Option.bind_some]
  simp only [dd]
  rw [h3 k (by omega), Option.bind_some, w64 (by omega) (by omega)]
  erw [h4 k (by omega)]
  rfl
end Go.Proofs.YtjjhfhhoefdjaaaGreatDoor.Rf.Pl
