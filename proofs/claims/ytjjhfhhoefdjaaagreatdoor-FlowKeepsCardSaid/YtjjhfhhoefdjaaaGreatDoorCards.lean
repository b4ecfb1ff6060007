/-
  DERIVED. GIVEN WITH THE SEED: THE CARDS: each row of YtjjhfhhoefdjaaaGreatDoorRows.lean that lists a variable, with what it lists TIED to the program's text (the seventh form; the later family's looks); each row that meets fmt, with fmt's text TOLD by the authors' own Lean function (tested against real Go, not proved from fmt's source: count such statements apart). THE CARD IS WHAT COUNTS. Prove the row's statement (the work); the ties are given (YtjjhfhhoefdjaaaGreatDoorTie.lean); close each card by the builder's one call (the guide's Derived/Test/ToyasCard.lean, 'card_holds'). Laid BY PROGRAM, IN A SANDBOX (cutbox-door.mjs). By AI agents, Wed Nov 11 2026. No macro, syntax, notation, axiom, sorry.
-/
import Derived.Test.YtjjhfhhoefdjaaaGreatDoorRows
import GoSem.ClaimSeven
namespace Go.Proofs.YtjjhfhhoefdjaaaGreatDoor
namespace Rows

/-- THE TIED CARD OF 'peloruslaw18.FlowKeeps'. -/
def flowKeepsCard : Claim7 := { stood := { row := flowKeepsRow, standIns := [], harness := (true, "66df0194c878dd8b8d653061b9c6689da4c0b1de30ee95dd27b9ae8662d521e3"), looks := false }, kinds := [], alts := [], laidByText := true, laidKinds := [.data], laidTests := true, laidLooks := .later }
def FlowKeepsCardSaid : Prop := Claim7.holds Tryz.pinned (.plain (OpenSpec.ofChange flowKeepsSpec)) flowKeepsCard

/-- THE SECOND FORM's CARD OF 'peloruslaw18.FlowKeeps'. -/
def flowKeepsUptoCard : Claim7 := { stood := { row := flowKeepsUptoRow, standIns := [], harness := (true, "66df0194c878dd8b8d653061b9c6689da4c0b1de30ee95dd27b9ae8662d521e3"), looks := false }, kinds := [], alts := [], laidByText := true, laidKinds := [.data], laidTests := true, laidLooks := .later }
def FlowKeepsUptoCardSaid : Prop := Claim7.holds Tryz.pinned (.plain (OpenSpec.upto flowKeepsSpec)) flowKeepsUptoCard
end Rows
end Go.Proofs.YtjjhfhhoefdjaaaGreatDoor
