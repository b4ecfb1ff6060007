/- For every input the law FlowKeeps answers true, and each argument reads behind the call as it read before: the row, joined out of the plain statement and the functions' contracts; and its card. No condition. -/
import Derived.Test.YtjjhfhhoefdjaaaGreatDoorRows
import Derived.Test.YtjjhfhhoefdjaaaGreatDoorP4
import Derived.Test.YtjjhfhhoefdjaaaGreatDoorCards
import Derived.Test.YtjjhfhhoefdjaaaGreatDoorTie
import Derived.Below
import Derived.LaidMore
import Derived.Handed
import Derived.Stop.Joined
import Derived.SevenTiedAt
import Derived.Lib.LaidTab
namespace Go.Proofs.YtjjhfhhoefdjaaaGreatDoor.Rf
open Go Go.Proofs Go.RowKit Go.Proofs.YtjjhfhhoefdjaaaGreatDoor
open Go.ChangeShapes Go.WideShapes Go.ChangeAt
set_option linter.unusedVariables false
set_option linter.unusedSimpArgs false
namespace flowKeeps
theorem own : ownKnob Tryz.prog.godebug = none := by kernel_rfl
theorem laidOut : laidOutB Tryz.prog = true := by kernel_rfl
def laid1 : List (String × DataW Unit) := [("math/bits.deBruijn32tab", Rows.laid_math_bits_deBruijn32tab)]
/-- The door's own heap meets the condition: three closed facts. -/
theorem door_met (os : Os) (args : Array Value) : laidMetH Tryz.prog laid1 ((World.doorLaid Tryz.prog 400 os).forCall (fun _ _ => 0) ⟨#[], args, []⟩).memory :=
  laidMetH_of_parts3 (fuel := 8) (laidMet_of_run' 8 (by kernel_rfl) (by kernel_rfl)) (by kernel_rfl) (by kernel_rfl)
theorem gt_ : Tryz.prog.globalNamed "math/bits.deBruijn32tab" = some 0 := by kernel_rfl
/-- What the condition gives: the table's cells. -/
theorem tz_of_laid {W : World} (h : laidMetH Tryz.prog laid1 W) : tzG W := by
  rw [MakeChecks.laidMetH_plain _ _ _ (by kernel_rfl)] at h
  have t := Lib.tabIs_of_head (k := .u8) (zs := tz32tab) (rest := []) (g := 0) (t := 121) (e := 5) (n := 32) gt_ (by kernel_rfl) (by kernel_rfl) (by kernel_rfl) (by kernel_rfl) (by kernel_rfl) h
  exact fun i hi => Lib.TabIs.cell t gt_ i hi
theorem tz_size {W : World} (h : tzG W) : 0 < W.heap.size := by
  have h0 := h 0 (by decide)
  apply Classical.byContradiction
  intro hn
  have e : W.heap[0]? = none := Array.getElem?_eq_none (Nat.le_of_not_lt hn)
  simp only [World.cell?, e] at h0
  cases h0
theorem tz_below {w w' : World} (h : tzG w) (hb : Below w.heap.size w w') : tzG w' := fun i hi => by rw [hb.cell (p := ⟨0, i, none⟩) (tz_size h)]; exact h i hi
theorem law_calls_tz {P : Program} {n : FuncId} {Us : List Ty} {F : Nat → HL Us → Option (HL [.bool])} {k : Nat} (hS : SpecOK P tzG n ⟨Us, [.bool], F k⟩) {w : World} {xs : HL Us} {vs : List Value} (hg : tzG w)
    (hx : RepL w (fun _ => True) Us xs vs) (h : F k xs = some (true, ())) : Calls P n vs.toArray w fun e w' => e = .returned (.bool true) ∧ Below w.heap.size w w' := by
  refine (hS.2 w (fun _ => True) xs vs (true, ()) (fun _ hb => tz_below hg hb) hx h).mono fun e w' he => ?_
  obtain ⟨v, rfl, hb, hr⟩ := he
  exact ⟨by rw [Rep.bool hr], hb⟩
set_option maxRecDepth 100000 in
theorem lifted (os : Os) (started : os.Started) (H : Type) (enc : TypeId × Value → H) :
    ReturnsInHanded {} Tryz.checked os 3 .any (fun w args => (Rows.flowKeepsSpec.pre enc Tryz.prog Tryz.f3 [] false w args ∧ laidMetH Tryz.prog laid1 w) ∧ sizedMet enc Tryz.prog Tryz.f3 (OpenSpec.ofChange Rows.flowKeepsSpec) false w args) (Rows.flowKeepsSpec.post enc Tryz.prog Tryz.f3 false true false false) := by
  refine returnsInHanded_of_change_and (C := Tryz.checked) (X := fun w _ => laidMetH Tryz.prog laid1 w) (fun _ _ _ hh h => h.of_heap hh) own started (by kernel_rfl) Tryz.func3
    (ChangeSpec.witness_shaped (enc := enc) (C := Tryz.checked) (os := os) (X := fun w _ => laidMetH Tryz.prog laid1 w) false (World.doorLaid Tryz.prog 400 os) #[.agg #[.int .i64 0, .bool false, .int .u64 0, .int .i64 0, .bool false, .int .i64 0, .bool false, .int .u64 0, .int .i64 0, .int .i64 0, .bool false, .int .u64 0, .int .i64 0, .slice none 0 0], .slice none 0 0, .slice none 0 0, .slice none 0 0] 12 rfl (World.shaped_of_RefB (by kernel_rfl) (by kernel_rfl)) (by kernel_rfl) (by kernel_rfl) (by kernel_rfl) (door_met os _)) ?_
  intro W base args ds gs before hval0 hW hcnd hsz0 hL _
  have hval : ∀ (j : Nat) t v, Tryz.f3.params[j]? = some t → args[j]? = some v → Value.okWide Tryz.prog W .any base t v := hval0
  have hW' := hW
  obtain ⟨p, q, hA, hV, rfl, hfz, hnd⟩ := hW
  obtain ⟨rfl, rfl⟩ := trodVars_none hV
  obtain ⟨xs, hx, hok⟩ := plain_args (k := 12) Tryz.f3.params.toList [T28, T30, T31, T31] args.toList ds p (by kernel_rfl) (fun j t v ht hv => hval j t v (by simpa using ht) (by simpa using hv)) hA
  obtain ⟨d0, d1, d2, d3, rfl⟩ : ∃ d0 d1 d2 d3, ds = [d0, d1, d2, d3] := by
    have hA2 := hA
    rw [Tryz.params3] at hA2
    obtain ⟨_, _, d0, _, _, _, _, rfl, rfl, _, r0⟩ := trodAll_cons hA2
    obtain ⟨_, _, d1, _, _, _, _, rfl, rfl, _, r1⟩ := trodAll_cons r0
    obtain ⟨_, _, d2, _, _, _, _, rfl, rfl, _, r2⟩ := trodAll_cons r1
    obtain ⟨_, _, d3, _, _, _, _, rfl, rfl, _, r3⟩ := trodAll_cons r2
    obtain ⟨_, rfl, _⟩ := trodAll_nil r3
    exact ⟨_, _, _, _, rfl⟩
  obtain ⟨k, h⟩ : ∃ k, peloruslaw18_FlowKeeps k (xs.1) (xs.2.1) (xs.2.2.1) (xs.2.2.2.1) = some (true, ()) := Pl.FlowKeeps xs.1 xs.2.1 xs.2.2.1 xs.2.2.2.1 (Pl.okT hok.1) (Pl.okIs hok.2.1) (Pl.okNs hok.2.2.1) (Pl.okNs hok.2.2.2.1)
  refine (show Calls Tryz.prog 3 args W _ from (law_calls_tz (F := fun k (x : HL [T28, T30, T31, T31]) => peloruslaw18_FlowKeeps k x.1 x.2.1 x.2.2.1 x.2.2.2.1) (peloruslaw18_FlowKeeps.ok k) (tz_of_laid hL) hx h)).mono fun e W' ⟨he, bel⟩ => ?_
  subst he
  exact ⟨_, rfl, _, _, _, [], _, [], hW', trodAll_mk1 (shut_bool Tryz.underlying4 _), trodAll_below laidOut bel _ _ _ _ (by kernel_rfl) hA, rfl, bel.frame _, fun h => by cases h⟩
theorem over : Rows.flowKeepsRow.holds Tryz.pinned (OpenSpec.ofChange Rows.flowKeepsSpec) :=
  OpenClaim.holds_of_wide 3 Tryz.f3 rfl rfl rfl rfl rfl rfl rfl ⟨rfl, rfl, rfl, rfl, rfl⟩ rfl rfl rfl rfl rfl (by kernel_rfl) Tryz.func3 (by kernel_rfl)
    (of_decide_eq_true (by kernel_rfl)) (by unfold Func.isWrapper; first | (rw [if_pos (by decide +kernel)]; kernel_rfl) | (rw [if_neg (by decide +kernel)]; exact ⟨rfl, rfl⟩))
    (fun os started H enc _ => lifted os started H enc)
theorem proved : Rows.FlowKeepsCardSaid :=
  Claim7.holds_tied_plain_at .later [] [.data] true (true, "66df0194c878dd8b8d653061b9c6689da4c0b1de30ee95dd27b9ae8662d521e3") false
    over (fun _ h => by cases h) (by kernel_rfl) (fun _ h => by cases h) flowKeeps_row_tie rfl ⟨rfl, rfl⟩ (by kernel_rfl) rfl
    (fun f fn hf hfn => by
      obtain rfl : f = 3 := Option.some.inj ((show Tryz.prog.funcNamed "pelorus/peloruslaw18.FlowKeeps" = some 3 by kernel_rfl).symm.trans hf) |>.symm
      obtain rfl : fn = Tryz.f3 := (Option.some.inj (Tryz.func3.symm.trans hfn)).symm
      exact ⟨by kernel_rfl, fun j t ht => by
        have hm : t ∈ Tryz.f3.params.toList := by simpa using Array.mem_of_getElem? ht
        have hall : (Tryz.f3.params.toList.all fun u => !Tryz.prog.wantsStandIn u) = true := by kernel_rfl
        exact (show Tryz.prog.wantsStandIn t = false by simpa using List.all_eq_true.1 hall t hm)⟩)
    (by kernel_rfl)
end flowKeeps
end Go.Proofs.YtjjhfhhoefdjaaaGreatDoor.Rf
namespace Go.Proofs.YtjjhfhhoefdjaaaGreatDoor
/-- The row, under a short name, for the claim. -/
theorem flowKeeps_holds : Rows.FlowKeepsCardSaid := Rf.flowKeeps.proved
#print axioms flowKeeps_holds
end Go.Proofs.YtjjhfhhoefdjaaaGreatDoor
