/-
  DERIVED. GIVEN WITH THE SEED: THE CARDS: each row of YtaookeneeemfbaaDoorRows.lean that lists a variable, with what it lists TIED to the program's text (the seventh form; the later family's looks); each row that meets fmt, with fmt's text TOLD by the authors' own Lean function (tested against real Go, not proved from fmt's source: count such statements apart). THE CARD IS WHAT COUNTS. Prove the row's statement (the work); the ties are given (YtaookeneeemfbaaDoorTie.lean); close each card by the builder's one call (the guide's Derived/Test/ToyasCard.lean, 'card_holds'). Laid BY PROGRAM, IN A SANDBOX (cutbox-door.mjs). By AI agents, Wed Nov 11 2026. No macro, syntax, notation, axiom, sorry.
-/
import Derived.Test.YtaookeneeemfbaaDoorRows
import GoSem.ClaimSeven
namespace Go.Proofs.YtaookeneeemfbaaDoor
namespace Rows

/-- THE TIED CARD OF 'peloruslaw03.DyMakes'. -/
def dyMakesCard : Claim7 := { stood := { row := dyMakesRow, standIns := [], harness := (true, "0b460e94ba79b7c4c123fe6ec245168e5c607cfe8cbad8220b1e5583c3adeb11"), looks := false }, kinds := [], alts := [], laidByText := true, laidKinds := [.data], laidTests := true, laidLooks := .later }
def DyMakesCardSaid : Prop := Claim7.holds Tryd.pinned (.plain (OpenSpec.ofChange dyMakesSpec)) dyMakesCard

/-- THE TIED CARD OF 'peloruslaw03.DyMoves'. -/
def dyMovesCard : Claim7 := { stood := { row := dyMovesRow, standIns := [], harness := (true, "0b460e94ba79b7c4c123fe6ec245168e5c607cfe8cbad8220b1e5583c3adeb11"), looks := false }, kinds := [], alts := [], laidByText := true, laidKinds := [.data], laidTests := true, laidLooks := .later }
def DyMovesCardSaid : Prop := Claim7.holds Tryd.pinned (.plain (OpenSpec.ofChange dyMovesSpec)) dyMovesCard

/-- THE TIED CARD OF 'peloruslaw03.DyFloors'. -/
def dyFloorsCard : Claim7 := { stood := { row := dyFloorsRow, standIns := [], harness := (true, "0b460e94ba79b7c4c123fe6ec245168e5c607cfe8cbad8220b1e5583c3adeb11"), looks := false }, kinds := [], alts := [], laidByText := true, laidKinds := [.data], laidTests := true, laidLooks := .later }
def DyFloorsCardSaid : Prop := Claim7.holds Tryd.pinned (.plain (OpenSpec.ofChange dyFloorsSpec)) dyFloorsCard

/-- THE TIED CARD OF 'peloruslaw03.DySums'. -/
def dySumsCard : Claim7 := { stood := { row := dySumsRow, standIns := [], harness := (true, "0b460e94ba79b7c4c123fe6ec245168e5c607cfe8cbad8220b1e5583c3adeb11"), looks := false }, kinds := [], alts := [], laidByText := true, laidKinds := [.data], laidTests := true, laidLooks := .later }
def DySumsCardSaid : Prop := Claim7.holds Tryd.pinned (.plain (OpenSpec.ofChange dySumsSpec)) dySumsCard

/-- THE TIED CARD OF 'peloruslaw03.DyRing'. -/
def dyRingCard : Claim7 := { stood := { row := dyRingRow, standIns := [], harness := (true, "0b460e94ba79b7c4c123fe6ec245168e5c607cfe8cbad8220b1e5583c3adeb11"), looks := false }, kinds := [], alts := [], laidByText := true, laidKinds := [.data], laidTests := true, laidLooks := .later }
def DyRingCardSaid : Prop := Claim7.holds Tryd.pinned (.plain (OpenSpec.ofChange dyRingSpec)) dyRingCard

/-- THE TIED CARD OF 'peloruslaw03.DyParts'. -/
def dyPartsCard : Claim7 := { stood := { row := dyPartsRow, standIns := [], harness := (true, "0b460e94ba79b7c4c123fe6ec245168e5c607cfe8cbad8220b1e5583c3adeb11"), looks := false }, kinds := [], alts := [], laidByText := true, laidKinds := [.data], laidTests := true, laidLooks := .later }
def DyPartsCardSaid : Prop := Claim7.holds Tryd.pinned (.plain (OpenSpec.ofChange dyPartsSpec)) dyPartsCard

/-- THE SECOND FORM's CARD OF 'peloruslaw03.DyMakes'. -/
def dyMakesUptoCard : Claim7 := { stood := { row := dyMakesUptoRow, standIns := [], harness := (true, "0b460e94ba79b7c4c123fe6ec245168e5c607cfe8cbad8220b1e5583c3adeb11"), looks := false }, kinds := [], alts := [], laidByText := true, laidKinds := [.data], laidTests := true, laidLooks := .later }
def DyMakesUptoCardSaid : Prop := Claim7.holds Tryd.pinned (.plain (OpenSpec.upto dyMakesSpec)) dyMakesUptoCard

/-- THE SECOND FORM's CARD OF 'peloruslaw03.DyMoves'. -/
def dyMovesUptoCard : Claim7 := { stood := { row := dyMovesUptoRow, standIns := [], harness := (true, "0b460e94ba79b7c4c123fe6ec245168e5c607cfe8cbad8220b1e5583c3adeb11"), looks := false }, kinds := [], alts := [], laidByText := true, laidKinds := [.data], laidTests := true, laidLooks := .later }
def DyMovesUptoCardSaid : Prop := Claim7.holds Tryd.pinned (.plain (OpenSpec.upto dyMovesSpec)) dyMovesUptoCard

/-- THE SECOND FORM's CARD OF 'peloruslaw03.DyFloors'. -/
def dyFloorsUptoCard : Claim7 := { stood := { row := dyFloorsUptoRow, standIns := [], harness := (true, "0b460e94ba79b7c4c123fe6ec245168e5c607cfe8cbad8220b1e5583c3adeb11"), looks := false }, kinds := [], alts := [], laidByText := true, laidKinds := [.data], laidTests := true, laidLooks := .later }
def DyFloorsUptoCardSaid : Prop := Claim7.holds Tryd.pinned (.plain (OpenSpec.upto dyFloorsSpec)) dyFloorsUptoCard

/-- THE SECOND FORM's CARD OF 'peloruslaw03.DySums'. -/
def dySumsUptoCard : Claim7 := { stood := { row := dySumsUptoRow, standIns := [], harness := (true, "0b460e94ba79b7c4c123fe6ec245168e5c607cfe8cbad8220b1e5583c3adeb11"), looks := false }, kinds := [], alts := [], laidByText := true, laidKinds := [.data], laidTests := true, laidLooks := .later }
def DySumsUptoCardSaid : Prop := Claim7.holds Tryd.pinned (.plain (OpenSpec.upto dySumsSpec)) dySumsUptoCard

/-- THE SECOND FORM's CARD OF 'peloruslaw03.DyRing'. -/
def dyRingUptoCard : Claim7 := { stood := { row := dyRingUptoRow, standIns := [], harness := (true, "0b460e94ba79b7c4c123fe6ec245168e5c607cfe8cbad8220b1e5583c3adeb11"), looks := false }, kinds := [], alts := [], laidByText := true, laidKinds := [.data], laidTests := true, laidLooks := .later }
def DyRingUptoCardSaid : Prop := Claim7.holds Tryd.pinned (.plain (OpenSpec.upto dyRingSpec)) dyRingUptoCard

/-- THE SECOND FORM's CARD OF 'peloruslaw03.DyParts'. -/
def dyPartsUptoCard : Claim7 := { stood := { row := dyPartsUptoRow, standIns := [], harness := (true, "0b460e94ba79b7c4c123fe6ec245168e5c607cfe8cbad8220b1e5583c3adeb11"), looks := false }, kinds := [], alts := [], laidByText := true, laidKinds := [.data], laidTests := true, laidLooks := .later }
def DyPartsUptoCardSaid : Prop := Claim7.holds Tryd.pinned (.plain (OpenSpec.upto dyPartsSpec)) dyPartsUptoCard
end Rows
end Go.Proofs.YtaookeneeemfbaaDoor
