/-
  DERIVED. GIVEN WITH THE SEED: THE CARDS: each row of YtgpadcokcdpmnaaDoorRows.lean that lists a variable, with what it lists TIED to the program's text (the seventh form; the later family's looks); each row that meets fmt, with fmt's text TOLD by the authors' own Lean function (tested against real Go, not proved from fmt's source: count such statements apart). THE CARD IS WHAT COUNTS. Prove the row's statement (the work); the ties are given (YtgpadcokcdpmnaaDoorTie.lean); close each card by the builder's one call (the guide's Derived/Test/ToyasCard.lean, 'card_holds'). Laid BY PROGRAM, IN A SANDBOX (cutbox-door.mjs). By AI agents, Wed Nov 11 2026. No macro, syntax, notation, axiom, sorry.
-/
import Derived.Test.YtgpadcokcdpmnaaDoorRows
import GoSem.ClaimSeven
namespace Go.Proofs.YtgpadcokcdpmnaaDoor
namespace Rows

/-- THE TIED CARD OF 'ciceronelaw46.FeedDiffs'. -/
def feedDiffsCard : Claim7 := { stood := { row := feedDiffsRow, standIns := [], harness := (true, "2c40932f7262a57608a8645b3ca71b4a60f1c542bda8b688838ea658006e3126"), looks := false }, kinds := [], alts := [], laidByText := true, laidKinds := [.data, .pinned], laidTests := true, laidLooks := .later }
def FeedDiffsCardSaid : Prop := Claim7.holds Tryd.pinned (.plain (OpenSpec.ofChange feedDiffsSpec)) feedDiffsCard

/-- THE TIED CARD OF 'ciceronelaw46.FeedLeads'. -/
def feedLeadsCard : Claim7 := { stood := { row := feedLeadsRow, standIns := [], harness := (true, "2c40932f7262a57608a8645b3ca71b4a60f1c542bda8b688838ea658006e3126"), looks := false }, kinds := [], alts := [], laidByText := true, laidKinds := [.data, .pinned], laidTests := true, laidLooks := .later }
def FeedLeadsCardSaid : Prop := Claim7.holds Tryd.pinned (.plain (OpenSpec.ofChange feedLeadsSpec)) feedLeadsCard

/-- THE TIED CARD OF 'ciceronelaw46.FeedOrders'. -/
def feedOrdersCard : Claim7 := { stood := { row := feedOrdersRow, standIns := [], harness := (true, "2c40932f7262a57608a8645b3ca71b4a60f1c542bda8b688838ea658006e3126"), looks := false }, kinds := [], alts := [], laidByText := true, laidKinds := [.data, .pinned], laidTests := true, laidLooks := .later }
def FeedOrdersCardSaid : Prop := Claim7.holds Tryd.pinned (.plain (OpenSpec.ofChange feedOrdersSpec)) feedOrdersCard

/-- THE SECOND FORM's CARD OF 'ciceronelaw46.FeedDiffs'. -/
def feedDiffsUptoCard : Claim7 := { stood := { row := feedDiffsUptoRow, standIns := [], harness := (true, "2c40932f7262a57608a8645b3ca71b4a60f1c542bda8b688838ea658006e3126"), looks := false }, kinds := [], alts := [], laidByText := true, laidKinds := [.data, .pinned], laidTests := true, laidLooks := .later }
def FeedDiffsUptoCardSaid : Prop := Claim7.holds Tryd.pinned (.plain (OpenSpec.upto feedDiffsSpec)) feedDiffsUptoCard

/-- THE SECOND FORM's CARD OF 'ciceronelaw46.FeedLeads'. -/
def feedLeadsUptoCard : Claim7 := { stood := { row := feedLeadsUptoRow, standIns := [], harness := (true, "2c40932f7262a57608a8645b3ca71b4a60f1c542bda8b688838ea658006e3126"), looks := false }, kinds := [], alts := [], laidByText := true, laidKinds := [.data, .pinned], laidTests := true, laidLooks := .later }
def FeedLeadsUptoCardSaid : Prop := Claim7.holds Tryd.pinned (.plain (OpenSpec.upto feedLeadsSpec)) feedLeadsUptoCard

/-- THE SECOND FORM's CARD OF 'ciceronelaw46.FeedOrders'. -/
def feedOrdersUptoCard : Claim7 := { stood := { row := feedOrdersUptoRow, standIns := [], harness := (true, "2c40932f7262a57608a8645b3ca71b4a60f1c542bda8b688838ea658006e3126"), looks := false }, kinds := [], alts := [], laidByText := true, laidKinds := [.data, .pinned], laidTests := true, laidLooks := .later }
def FeedOrdersUptoCardSaid : Prop := Claim7.holds Tryd.pinned (.plain (OpenSpec.upto feedOrdersSpec)) feedOrdersUptoCard
end Rows
end Go.Proofs.YtgpadcokcdpmnaaDoor
