/-
  DERIVED. GIVEN WITH THE SEED: THE CARDS: each row of YtgbbgcepcnklkaaGreatDoorRows.lean that lists a variable, with what it lists TIED to the program's text (the seventh form; the later family's looks); each row that meets fmt, with fmt's text TOLD by the authors' own Lean function (tested against real Go, not proved from fmt's source: count such statements apart). THE CARD IS WHAT COUNTS. Prove the row's statement (the work); the ties are given (YtgbbgcepcnklkaaGreatDoorTie.lean); close each card by the builder's one call (the guide's Derived/Test/ToyasCard.lean, 'card_holds'). Laid BY PROGRAM, IN A SANDBOX (cutbox-door.mjs). By AI agents, Wed Nov 11 2026. No macro, syntax, notation, axiom, sorry.
-/
import Derived.Test.YtgbbgcepcnklkaaGreatDoorRows
import GoSem.ClaimSeven
namespace Go.Proofs.YtgbbgcepcnklkaaGreatDoor
namespace Rows

/-- THE TIED CARD OF 'trystlaw27.ShowParses'. -/
def showParsesCard : Claim7 := { stood := { row := showParsesRow, standIns := [], harness := (true, "8fcf31cf21b7bd5fc5288e719cd6079437759e0630d8ca8b9ee961d3adad8937"), looks := true }, kinds := [], alts := [], laidByText := true, laidKinds := [.data, .data, .data, .data, .sentinel, .sentinel, .pinned], laidTests := true, laidLooks := .later }
def ShowParsesCardSaid : Prop := Claim7.holds Tryz.pinned (.plain (OpenSpec.ofChange showParsesSpec)) showParsesCard

/-- THE TIED CARD OF 'trystlaw27.ShowBack'. -/
def showBackCard : Claim7 := { stood := { row := showBackRow, standIns := [], harness := (true, "8fcf31cf21b7bd5fc5288e719cd6079437759e0630d8ca8b9ee961d3adad8937"), looks := true }, kinds := [], alts := [], laidByText := true, laidKinds := [.data, .data, .data, .data, .sentinel, .sentinel, .pinned], laidTests := true, laidLooks := .later }
def ShowBackCardSaid : Prop := Claim7.holds Tryz.pinned (.plain (OpenSpec.ofChange showBackSpec)) showBackCard

/-- THE SECOND FORM's CARD OF 'trystlaw27.ShowParses'. -/
def showParsesUptoCard : Claim7 := { stood := { row := showParsesUptoRow, standIns := [], harness := (true, "8fcf31cf21b7bd5fc5288e719cd6079437759e0630d8ca8b9ee961d3adad8937"), looks := true }, kinds := [], alts := [], laidByText := true, laidKinds := [.data, .data, .data, .data, .sentinel, .sentinel, .pinned], laidTests := true, laidLooks := .later }
def ShowParsesUptoCardSaid : Prop := Claim7.holds Tryz.pinned (.plain (OpenSpec.upto showParsesSpec)) showParsesUptoCard

/-- THE SECOND FORM's CARD OF 'trystlaw27.ShowBack'. -/
def showBackUptoCard : Claim7 := { stood := { row := showBackUptoRow, standIns := [], harness := (true, "8fcf31cf21b7bd5fc5288e719cd6079437759e0630d8ca8b9ee961d3adad8937"), looks := true }, kinds := [], alts := [], laidByText := true, laidKinds := [.data, .data, .data, .data, .sentinel, .sentinel, .pinned], laidTests := true, laidLooks := .later }
def ShowBackUptoCardSaid : Prop := Claim7.holds Tryz.pinned (.plain (OpenSpec.upto showBackSpec)) showBackUptoCard
end Rows
end Go.Proofs.YtgbbgcepcnklkaaGreatDoor
