/-
  DERIVED. GIVEN WITH THE SEED: THE CARDS: each row of YtomnmgmehagjfaaGreatDoorRows.lean that lists a variable, with what it lists TIED to the program's text (the seventh form; the later family's looks); each row that meets fmt, with fmt's text TOLD by the authors' own Lean function (tested against real Go, not proved from fmt's source: count such statements apart). THE CARD IS WHAT COUNTS. Prove the row's statement (the work); the ties are given (YtomnmgmehagjfaaGreatDoorTie.lean); close each card by the builder's one call (the guide's Derived/Test/ToyasCard.lean, 'card_holds'). Laid BY PROGRAM, IN A SANDBOX (cutbox-door.mjs). By AI agents, Wed Nov 11 2026. No macro, syntax, notation, axiom, sorry.
-/
import Derived.Test.YtomnmgmehagjfaaGreatDoorRows
import GoSem.ClaimSeven
namespace Go.Proofs.YtomnmgmehagjfaaGreatDoor
namespace Rows

/-- THE TIED CARD OF 'ciceronelaw06.ClockDecodes'. -/
def clockDecodesCard : Claim7 := { stood := { row := clockDecodesRow, standIns := [], harness := (true, "a6929fb7b06b6a978cfbdcb79b11cb38c3c41a1351db638594ab92e487c1d1b8"), looks := true }, kinds := [], alts := [], laidByText := true, laidKinds := [.data, .data, .data, .data, .sentinel, .sentinel, .pinned], laidTests := true, laidLooks := .later }
def ClockDecodesCardSaid : Prop := Claim7.holds Tryz.pinned (.plain (OpenSpec.ofChange clockDecodesSpec)) clockDecodesCard

/-- THE SECOND FORM's CARD OF 'ciceronelaw06.ClockDecodes'. -/
def clockDecodesUptoCard : Claim7 := { stood := { row := clockDecodesUptoRow, standIns := [], harness := (true, "a6929fb7b06b6a978cfbdcb79b11cb38c3c41a1351db638594ab92e487c1d1b8"), looks := true }, kinds := [], alts := [], laidByText := true, laidKinds := [.data, .data, .data, .data, .sentinel, .sentinel, .pinned], laidTests := true, laidLooks := .later }
def ClockDecodesUptoCardSaid : Prop := Claim7.holds Tryz.pinned (.plain (OpenSpec.upto clockDecodesSpec)) clockDecodesUptoCard
end Rows
end Go.Proofs.YtomnmgmehagjfaaGreatDoor
