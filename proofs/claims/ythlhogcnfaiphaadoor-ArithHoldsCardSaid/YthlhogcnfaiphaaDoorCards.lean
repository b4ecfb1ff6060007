/-
  DERIVED. GIVEN WITH THE SEED: THE CARDS: each row of YthlhogcnfaiphaaDoorRows.lean that lists a variable, with what it lists TIED to the program's text (the seventh form; the later family's looks); each row that meets fmt, with fmt's text TOLD by the authors' own Lean function (tested against real Go, not proved from fmt's source: count such statements apart). THE CARD IS WHAT COUNTS. Prove the row's statement (the work); the ties are given (YthlhogcnfaiphaaDoorTie.lean); close each card by the builder's one call (the guide's Derived/Test/ToyasCard.lean, 'card_holds'). Laid BY PROGRAM, IN A SANDBOX (cutbox-door.mjs). By AI agents, Wed Nov 11 2026. No macro, syntax, notation, axiom, sorry.
-/
import Derived.Test.YthlhogcnfaiphaaDoorRows
import GoSem.ClaimSeven
namespace Go.Proofs.YthlhogcnfaiphaaDoor
namespace Rows

/-- THE TIED CARD OF 'peloruslaw06.ArithHolds'. -/
def arithHoldsCard : Claim7 := { stood := { row := arithHoldsRow, standIns := [], harness := (true, "a8113bf4e14dcb3cda1b666d73346985277cf3f26f0f557be0d2ed9fb3235c75"), looks := false }, kinds := [], alts := [], laidByText := true, laidKinds := [.data], laidTests := true, laidLooks := .later }
def ArithHoldsCardSaid : Prop := Claim7.holds Tryd.pinned (.plain (OpenSpec.ofChange arithHoldsSpec)) arithHoldsCard

/-- THE SECOND FORM's CARD OF 'peloruslaw06.ArithHolds'. -/
def arithHoldsUptoCard : Claim7 := { stood := { row := arithHoldsUptoRow, standIns := [], harness := (true, "a8113bf4e14dcb3cda1b666d73346985277cf3f26f0f557be0d2ed9fb3235c75"), looks := false }, kinds := [], alts := [], laidByText := true, laidKinds := [.data], laidTests := true, laidLooks := .later }
def ArithHoldsUptoCardSaid : Prop := Claim7.holds Tryd.pinned (.plain (OpenSpec.upto arithHoldsSpec)) arithHoldsUptoCard
end Rows
end Go.Proofs.YthlhogcnfaiphaaDoor
