/-
  DERIVED. GIVEN WITH THE SEED: THE CARDS: each row of YthhohplddgklgaaDoorRows.lean that lists a variable, with what it lists TIED to the program's text (the seventh form; the later family's looks); each row that meets fmt, with fmt's text TOLD by the authors' own Lean function (tested against real Go, not proved from fmt's source: count such statements apart). THE CARD IS WHAT COUNTS. Prove the row's statement (the work); the ties are given (YthhohplddgklgaaDoorTie.lean); close each card by the builder's one call (the guide's Derived/Test/ToyasCard.lean, 'card_holds'). Laid BY PROGRAM, IN A SANDBOX (cutbox-door.mjs). By AI agents, Wed Nov 11 2026. No macro, syntax, notation, axiom, sorry.
-/
import Derived.Test.YthhohplddgklgaaDoorRows
import GoSem.ClaimSeven
namespace Go.Proofs.YthhohplddgklgaaDoor
namespace Rows

/-- THE TIED CARD OF 'shuttlecocklaw03.KindTells'. -/
def kindTellsCard : Claim7 := { stood := { row := kindTellsRow, standIns := [], harness := (true, "4dbcca8b00d76afff70d75b48afce89c169e23eb7a310e91af49c155f760d016"), looks := true }, kinds := [], alts := [], laidByText := true, laidKinds := [.data, .data, .data, .sentinel, .sentinel], laidTests := true, laidLooks := .later }
def KindTellsCardSaid : Prop := Claim7.holds Tryd.pinned (.plain (OpenSpec.ofChange kindTellsSpec)) kindTellsCard

/-- THE TIED CARD OF 'shuttlecocklaw03.KindNames'. -/
def kindNamesCard : Claim7 := { stood := { row := kindNamesRow, standIns := [], harness := (true, "4dbcca8b00d76afff70d75b48afce89c169e23eb7a310e91af49c155f760d016"), looks := true }, kinds := [], alts := [], laidByText := true, laidKinds := [.data, .data, .data, .sentinel, .sentinel], laidTests := true, laidLooks := .later }
def KindNamesCardSaid : Prop := Claim7.holds Tryd.pinned (.plain (OpenSpec.ofChange kindNamesSpec)) kindNamesCard

/-- THE TIED CARD OF 'shuttlecocklaw03.KindAsked'. -/
def kindAskedCard : Claim7 := { stood := { row := kindAskedRow, standIns := [], harness := (true, "4dbcca8b00d76afff70d75b48afce89c169e23eb7a310e91af49c155f760d016"), looks := true }, kinds := [], alts := [], laidByText := true, laidKinds := [.data, .data, .data, .sentinel, .sentinel], laidTests := true, laidLooks := .later }
def KindAskedCardSaid : Prop := Claim7.holds Tryd.pinned (.plain (OpenSpec.ofChange kindAskedSpec)) kindAskedCard

/-- THE TIED CARD OF 'shuttlecocklaw03.KindArgs'. -/
def kindArgsCard : Claim7 := { stood := { row := kindArgsRow, standIns := [], harness := (true, "4dbcca8b00d76afff70d75b48afce89c169e23eb7a310e91af49c155f760d016"), looks := true }, kinds := [], alts := [], laidByText := true, laidKinds := [.data, .data, .data, .sentinel, .sentinel], laidTests := true, laidLooks := .later }
def KindArgsCardSaid : Prop := Claim7.holds Tryd.pinned (.plain (OpenSpec.ofChange kindArgsSpec)) kindArgsCard

/-- THE SECOND FORM's CARD OF 'shuttlecocklaw03.KindTells'. -/
def kindTellsUptoCard : Claim7 := { stood := { row := kindTellsUptoRow, standIns := [], harness := (true, "4dbcca8b00d76afff70d75b48afce89c169e23eb7a310e91af49c155f760d016"), looks := true }, kinds := [], alts := [], laidByText := true, laidKinds := [.data, .data, .data, .sentinel, .sentinel], laidTests := true, laidLooks := .later }
def KindTellsUptoCardSaid : Prop := Claim7.holds Tryd.pinned (.plain (OpenSpec.upto kindTellsSpec)) kindTellsUptoCard

/-- THE SECOND FORM's CARD OF 'shuttlecocklaw03.KindNames'. -/
def kindNamesUptoCard : Claim7 := { stood := { row := kindNamesUptoRow, standIns := [], harness := (true, "4dbcca8b00d76afff70d75b48afce89c169e23eb7a310e91af49c155f760d016"), looks := true }, kinds := [], alts := [], laidByText := true, laidKinds := [.data, .data, .data, .sentinel, .sentinel], laidTests := true, laidLooks := .later }
def KindNamesUptoCardSaid : Prop := Claim7.holds Tryd.pinned (.plain (OpenSpec.upto kindNamesSpec)) kindNamesUptoCard

/-- THE SECOND FORM's CARD OF 'shuttlecocklaw03.KindAsked'. -/
def kindAskedUptoCard : Claim7 := { stood := { row := kindAskedUptoRow, standIns := [], harness := (true, "4dbcca8b00d76afff70d75b48afce89c169e23eb7a310e91af49c155f760d016"), looks := true }, kinds := [], alts := [], laidByText := true, laidKinds := [.data, .data, .data, .sentinel, .sentinel], laidTests := true, laidLooks := .later }
def KindAskedUptoCardSaid : Prop := Claim7.holds Tryd.pinned (.plain (OpenSpec.upto kindAskedSpec)) kindAskedUptoCard

/-- THE SECOND FORM's CARD OF 'shuttlecocklaw03.KindArgs'. -/
def kindArgsUptoCard : Claim7 := { stood := { row := kindArgsUptoRow, standIns := [], harness := (true, "4dbcca8b00d76afff70d75b48afce89c169e23eb7a310e91af49c155f760d016"), looks := true }, kinds := [], alts := [], laidByText := true, laidKinds := [.data, .data, .data, .sentinel, .sentinel], laidTests := true, laidLooks := .later }
def KindArgsUptoCardSaid : Prop := Claim7.holds Tryd.pinned (.plain (OpenSpec.upto kindArgsSpec)) kindArgsUptoCard
end Rows
end Go.Proofs.YthhohplddgklgaaDoor
