import Derived.Test.YtaookeneeemfbaaDoorPAx0
import Derived.SizedLaws
import Derived.ChangeSlices
import Derived.Deep.Slices
import Derived.Deep.Fields
import Derived.ChangeOld
namespace Go.Proofs.YtaookeneeemfbaaDoor.TK
open Go.ChangeShapes Go.WideShapes Go.RowKit Go.Deep Go.Proofs.YtaookeneeemfbaaDoorW.PrintWords
set_option linter.unusedVariables false
set_option linter.unusedSimpArgs false

section
variable {H : Type} {enc : TypeId × Value → H} {P : Program} {w : World} {base : Nat} {spare : Nat → Bool} {held : Bool}

/-- No list within a datum is heavier than what may be reached. -/
def Light (P : Program) (t : TypeId) (d : DataW H) : Prop := ∀ n ∈ d.weights P t, n ≤ reachBytes

theorem light_each {ts : List TypeId} {ds : List (DataW H)} {j : Nat} {t : TypeId} {d : DataW H} (h : (DataW.weightsEach P ts ds).all (· ≤ reachBytes) = true) (ht : ts[j]? = some t) (hd : ds[j]? = some d) : Light P t d := by
  intro n hn
  have := List.all_eq_true.1 h n (DataW.weights_mem_each ht hd n hn)
  simpa using this

theorem light_field {t : TypeId} {fs : Array Field} {xs : List (DataW H × List MemPlace)} {i : Nat} {f : Field} {y : DataW H × List MemPlace} (hs : P.underlying t = some (.struct fs)) (h : Light P t (.agg (xs.map (·.1)))) (hf : fs[i]? = some f) (hy : xs[i]? = some y) : Light P f.type y.1 := by
  intro n hn
  refine h n ?_
  simp only [DataW.weights, hs]
  exact DataW.weights_mem_each (j := i) (t := f.type) (d := y.1) (by simp [hf]) (by simp [hy]) n hn

theorem weights_all {e : TypeId} : ∀ {l : List (DataW H)} {d : DataW H}, d ∈ l → ∀ n ∈ d.weights P e, n ∈ DataW.weightsAll P e l
  | d0 :: l, d, hd, n, hn => by
    simp only [DataW.weightsAll, List.mem_append]
    rcases List.mem_cons.1 hd with rfl | hd
    · exact .inl hn
    · exact .inr (weights_all hd n hn)

/-- A datum of a type holds a value of a kind that is good. -/
def DOp {α : Type} (enc : TypeId × Value → H) (P : Program) (w : World) (t : TypeId) (kd : Kd α) (ok : α → Prop) : Prop :=
  ∀ (base : Nat) (spare : Nat → Bool) (held : Bool) (fuel : Nat) (cs : List Value) (x : DataW H × List MemPlace), DataW.trod enc P w base spare held fuel t cs = some x → Light P t x.1 → ∃ v, kd.K w v cs ∧ ok v

theorem DOp.int {t : TypeId} {k : IntKind} (ht : P.underlying t = some (.int k)) : DOp enc P w t (Kd.int k) (fun v => (Lit.int k v).wf = true) := by
  intro base spare held fuel cs x h _
  obtain ⟨n, rfl, _, hw⟩ := DataW.trod_int ht h
  exact ⟨n, rfl, hw⟩
theorem DOp.bool {t : TypeId} (ht : P.underlying t = some .bool) : DOp enc P w t Kd.bool (fun _ => True) := by
  intro base spare held fuel cs x h _
  obtain ⟨n, rfl, _⟩ := DataW.trod_bool ht h
  exact ⟨n, rfl, trivial⟩

theorem DOp.slice {α : Type} {t e : TypeId} {kd : Kd α} {ok : α → Prop} {B : Nat} (ht : P.underlying t = some (.slice e)) (hC : P.cellsOf e = kd.sz) (hB : P.bytesOf e = B) (hop : DOp enc P w e kd ok) :
    DOp enc P w t (Kd.slice e kd) (fun l => l.length * B ≤ 140737488351232 ∧ l.length ≤ maxLen ∧ ∀ x ∈ l, ok x) := by
  intro base spare held fuel cs x h hl
  rcases open_slice ht h with ⟨rfl, rfl⟩ | ⟨a, len, cap, m, n, D, Pl, rfl, hb, hle, hm, hmm, rfl, hi⟩
  · exact ⟨[], ⟨none, 0, rfl, Nat.le_refl _, rfl, by simp, fun h => absurd h (by simp)⟩, by simp, by simp, by simp⟩
  · have hlm : len ≤ m := by rw [hmm]; split <;> omega
    have hw : ∀ q ∈ (DataW.slice ((List.range len).map D) ((List.range (m - len)).map fun j => D (len + j)) : DataW H).weights P t, q ≤ reachBytes := hl
    simp only [DataW.weights, ht, List.length_map, List.length_range] at hw
    have hlen : len * B ≤ 140737488351232 := by
      have := hw _ List.mem_cons_self
      rw [hB, show len + (m - len) = m by omega] at this
      exact Nat.le_trans (Nat.mul_le_mul_right _ hlm) this
    have key : ∀ i, i < len → ∃ v, ok v ∧ ∃ c, c.length = kd.sz ∧ kd.K w v c ∧ ∀ j u, c[j]? = some u → w.cell? (a.add (i * kd.sz + j)) = some u := by
      intro i hil
      obtain ⟨cs', hc, ht'⟩ := hi i (by omega)
      obtain ⟨v, hK, hok⟩ := hop base spare held n cs' (D i, Pl i) ht' (fun q hq => hw q (List.mem_cons_of_mem _ (List.mem_append_left _ (weights_all (List.mem_map.2 ⟨i, List.mem_range.2 hil, rfl⟩) q hq))))
      refine ⟨v, hok, cs', kd.K_len hK, hK, fun j u hu => ?_⟩
      rw [hC] at hc
      obtain ⟨_, hcl, hat⟩ := World.cells?_some hc
      have hj := (List.getElem?_eq_some_iff.1 hu).1
      have := hat j (by rw [← kd.K_len hK]; exact hj)
      rw [← Go.Deep.add_add]
      exact this.trans hu
    obtain ⟨l, hll, hlv⟩ : ∃ l : List α, l.length = len ∧ ∀ i v, l[i]? = some v → ok v ∧ ∃ c, c.length = kd.sz ∧ kd.K w v c ∧ ∀ j u, c[j]? = some u → w.cell? (a.add (i * kd.sz + j)) = some u := by
      clear hw hl hlen hi hmm hlm h
      generalize hN : len = N at key
      have : ∀ N' ≤ N, ∃ l : List α, l.length = N' ∧ ∀ i v, l[i]? = some v → ok v ∧ ∃ c, c.length = kd.sz ∧ kd.K w v c ∧ ∀ j u, c[j]? = some u → w.cell? (a.add (i * kd.sz + j)) = some u := by
        intro N'
        induction N' with
        | zero => exact fun _ => ⟨[], rfl, by simp⟩
        | succ q ih =>
          intro hq
          obtain ⟨l, h1, h2⟩ := ih (by omega)
          obtain ⟨v, hv⟩ := key q (by omega)
          refine ⟨l ++ [v], by simp [h1], fun i v' hi => ?_⟩
          by_cases hil : i < l.length
          · rw [List.getElem?_append_left hil] at hi
            exact h2 i v' hi
          · rw [List.getElem?_append_right (by omega)] at hi
            have : i - l.length = 0 := by
              rcases Nat.eq_zero_or_pos (i - l.length) with h0 | h0
              · exact h0
              · rw [List.getElem?_eq_none (by simp only [List.length_singleton]; omega)] at hi
                exact absurd hi (by simp)
            rw [this] at hi
            obtain rfl : v = v' := by simpa using hi
            obtain rfl : i = q := by omega
            exact hv
      exact this N (Nat.le_refl _)
    subst hll
    refine ⟨l, ⟨some a, cap, rfl, hle, rfl, ?_, fun _ => ⟨a, rfl, fun j p hp => (hlv j p hp).2⟩⟩, hlen, Nat.le_trans hle hm, fun v hv => ?_⟩
    · have : maxLen ≤ 9223372036854775807 := by decide
      omega
    · obtain ⟨i, hi'⟩ := List.getElem?_of_mem hv
      exact (hlv i v hi').1

/-- Of the fields from an offset on. -/
def OpF {α : Type} (enc : TypeId × Value → H) (P : Program) (w : World) (o : Nat) (fs : List Field) (kd : Kd α) (ok : α → Prop) : Prop :=
  ∀ (base : Nat) (spare : Nat → Bool) (held : Bool) (n : Nat) (cs : List Value), cs.length = o + kd.sz →
    (∀ f ∈ fs, ∃ y, DataW.trod enc P w base spare held n f.type ((cs.drop f.offset).take (P.cellsOf f.type)) = some y ∧ Light P f.type y.1) → ∃ v, kd.K w v (cs.drop o) ∧ ok v

theorem OpF.one {α : Type} {o : Nat} {f : Field} {kd : Kd α} {ok : α → Prop} (ho : f.offset = o) (hc : P.cellsOf f.type = kd.sz) (h : DOp enc P w f.type kd ok) : OpF enc P w o [f] kd ok := by
  intro base spare held n cs hl hf
  obtain ⟨y, hy, hw⟩ := hf f (by simp)
  rw [ho, hc, List.take_of_length_le (by simp; omega)] at hy
  exact h _ _ _ _ _ _ hy hw
theorem OpF.cons {α β : Type} {o : Nat} {f : Field} {fs : List Field} {kd : Kd α} {ok : α → Prop} {kd' : Kd β} {ok' : β → Prop} (ho : f.offset = o) (hc : P.cellsOf f.type = kd.sz) (h : DOp enc P w f.type kd ok) (h' : OpF enc P w (o + kd.sz) fs kd' ok') :
    OpF enc P w o (f :: fs) (Kd.pair kd kd') (fun v => ok v.1 ∧ ok' v.2) := by
  intro base spare held n cs hl hf
  have hl' : cs.length = o + (kd.sz + kd'.sz) := hl
  obtain ⟨y, hy, hw⟩ := hf f (by simp)
  rw [ho, hc] at hy
  obtain ⟨v, hK, hok⟩ := h _ _ _ _ _ _ hy hw
  obtain ⟨v', hK', hok'⟩ := h' base spare held n cs (by omega) (fun f' hf' => hf f' (List.mem_cons_of_mem _ hf'))
  refine ⟨(v, v'), ⟨_, _, ?_, hK, hK'⟩, hok, hok'⟩
  rw [← List.drop_drop, List.take_append_drop]

theorem DOp.struct {α β : Type} {t : TypeId} {fs : Array Field} {kd : Kd α} {ok : α → Prop} {ok' : β → Prop} (g : β → α) (g' : α → β) (hg : ∀ v, g (g' v) = v) (hs : P.underlying t = some (.struct fs)) (hC : P.cellsOf t = kd.sz) (h : OpF enc P w 0 fs.toList kd ok) (hok' : ∀ v, ok v → ok' (g' v)) :
    DOp enc P w t (Kd.iso kd g) ok' := by
  intro base spare held fuel cs x hx hl
  obtain ⟨xs, n, _, rfl, hlen, hxl, hf⟩ := DataW.trod_struct hs hx
  obtain ⟨v, hK, hok⟩ := h base spare held n cs (by omega) (fun f hm => by
    obtain ⟨i, hi⟩ := List.getElem?_of_mem hm
    have hi' : fs[i]? = some f := by simpa using hi
    have hil : i < fs.size := (Array.getElem?_eq_some_iff.1 hi').1
    have hx' : xs[i]? = some (xs[i]'(by omega)) := List.getElem?_eq_getElem (by omega)
    exact ⟨_, (hf i f hi').trans hx', light_field hs hl hi' hx'⟩)
  refine ⟨g' v, ?_, hok' v hok⟩
  show kd.K w (g (g' v)) cs
  rw [hg]
  simpa using hK
end
end Go.Proofs.YtaookeneeemfbaaDoor.TK
