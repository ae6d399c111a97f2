/-
  DERIVED. GIVEN WITH THE SEED: THE CARDS: each row of YtgbbgcepcnklkaaDoorRows.lean that lists a variable, with what it lists TIED to the program's text (the seventh form; the later family's looks); each row that meets fmt, with fmt's text TOLD by the authors' own Lean function (tested against real Go, not proved from fmt's source: count such statements apart). THE CARD IS WHAT COUNTS. Prove the row's statement (the work); the ties are given (YtgbbgcepcnklkaaDoorTie.lean); close each card by the builder's one call (the guide's Derived/Test/ToyasCard.lean, 'card_holds'). Laid BY PROGRAM, IN A SANDBOX (cutbox-door.mjs). By AI agents, Wed Nov 11 2026. No macro, syntax, notation, axiom, sorry.
-/
import Derived.Test.YtgbbgcepcnklkaaDoorRows
import GoSem.ClaimSeven
namespace Go.Proofs.YtgbbgcepcnklkaaDoor
namespace Rows

/-- THE TIED CARD OF 'trystlaw27.ShowDates'. -/
def showDatesCard : Claim7 := { stood := { row := showDatesRow, standIns := [], harness := (true, "df1a73346377c0ecf06d5153e78d26f64fd0d391caf197d19c280662661a1d24"), looks := false }, kinds := [], alts := [], laidByText := true, laidKinds := [.data, .data, .data, .data], laidTests := true, laidLooks := .later }
def ShowDatesCardSaid : Prop := Claim7.holds Tryd.pinned (.plain (OpenSpec.ofChange showDatesSpec)) showDatesCard

/-- THE TIED CARD OF 'trystlaw27.ShowLines'. -/
def showLinesCard : Claim7 := { stood := { row := showLinesRow, standIns := [], harness := (true, "df1a73346377c0ecf06d5153e78d26f64fd0d391caf197d19c280662661a1d24"), looks := false }, kinds := [], alts := [], laidByText := true, laidKinds := [.data, .data, .data], laidTests := true, laidLooks := .later }
def ShowLinesCardSaid : Prop := Claim7.holds Tryd.pinned (.plain (OpenSpec.ofChange showLinesSpec)) showLinesCard

/-- THE TIED CARD OF 'trystlaw27.ShowDays'. -/
def showDaysCard : Claim7 := { stood := { row := showDaysRow, standIns := [], harness := (true, "df1a73346377c0ecf06d5153e78d26f64fd0d391caf197d19c280662661a1d24"), looks := false }, kinds := [], alts := [], laidByText := true, laidKinds := [.data, .data, .data], laidTests := true, laidLooks := .later }
def ShowDaysCardSaid : Prop := Claim7.holds Tryd.pinned (.plain (OpenSpec.ofChange showDaysSpec)) showDaysCard

/-- THE SECOND FORM's CARD OF 'trystlaw27.ShowDates'. -/
def showDatesUptoCard : Claim7 := { stood := { row := showDatesUptoRow, standIns := [], harness := (true, "df1a73346377c0ecf06d5153e78d26f64fd0d391caf197d19c280662661a1d24"), looks := false }, kinds := [], alts := [], laidByText := true, laidKinds := [.data, .data, .data, .data], laidTests := true, laidLooks := .later }
def ShowDatesUptoCardSaid : Prop := Claim7.holds Tryd.pinned (.plain (OpenSpec.upto showDatesSpec)) showDatesUptoCard

/-- THE SECOND FORM's CARD OF 'trystlaw27.ShowLines'. -/
def showLinesUptoCard : Claim7 := { stood := { row := showLinesUptoRow, standIns := [], harness := (true, "df1a73346377c0ecf06d5153e78d26f64fd0d391caf197d19c280662661a1d24"), looks := false }, kinds := [], alts := [], laidByText := true, laidKinds := [.data, .data, .data], laidTests := true, laidLooks := .later }
def ShowLinesUptoCardSaid : Prop := Claim7.holds Tryd.pinned (.plain (OpenSpec.upto showLinesSpec)) showLinesUptoCard

/-- THE SECOND FORM's CARD OF 'trystlaw27.ShowDays'. -/
def showDaysUptoCard : Claim7 := { stood := { row := showDaysUptoRow, standIns := [], harness := (true, "df1a73346377c0ecf06d5153e78d26f64fd0d391caf197d19c280662661a1d24"), looks := false }, kinds := [], alts := [], laidByText := true, laidKinds := [.data, .data, .data], laidTests := true, laidLooks := .later }
def ShowDaysUptoCardSaid : Prop := Claim7.holds Tryd.pinned (.plain (OpenSpec.upto showDaysSpec)) showDaysUptoCard
end Rows
end Go.Proofs.YtgbbgcepcnklkaaDoor
