/-
  DERIVED. GIVEN WITH THE SEED: THE CARDS: each row of YthppkdbelmolbaaDoorRows.lean that lists a variable, with what it lists TIED to the program's text (the seventh form; the later family's looks); each row that meets fmt, with fmt's text TOLD by the authors' own Lean function (tested against real Go, not proved from fmt's source: count such statements apart). THE CARD IS WHAT COUNTS. Prove the row's statement (the work); the ties are given (YthppkdbelmolbaaDoorTie.lean); close each card by the builder's one call (the guide's Derived/Test/ToyasCard.lean, 'card_holds'). Laid BY PROGRAM, IN A SANDBOX (cutbox-door.mjs). By AI agents, Wed Nov 11 2026. No macro, syntax, notation, axiom, sorry.
-/
import Derived.Test.YthppkdbelmolbaaDoorRows
import GoSem.ClaimSeven
namespace Go.Proofs.YthppkdbelmolbaaDoor
namespace Rows

/-- THE TIED CARD OF 'trystlaw12.ValueNumbers'. -/
def valueNumbersCard : Claim7 := { stood := { row := valueNumbersRow, standIns := [], harness := (true, "9b903fd030f941aea96b085c9c6837fad59934b36873bed15cbe0af592974aa1"), looks := true }, kinds := [], alts := [], laidByText := true, laidKinds := [.data, .data, .data], laidTests := true, laidLooks := .later }
def ValueNumbersCardSaid : Prop := Claim7.holds Tryd.pinned (.plain (OpenSpec.ofChange valueNumbersSpec)) valueNumbersCard

/-- THE TIED CARD OF 'trystlaw12.ValueOffsets'. -/
def valueOffsetsCard : Claim7 := { stood := { row := valueOffsetsRow, standIns := [], harness := (true, "9b903fd030f941aea96b085c9c6837fad59934b36873bed15cbe0af592974aa1"), looks := true }, kinds := [], alts := [], laidByText := true, laidKinds := [.data, .data, .data], laidTests := true, laidLooks := .later }
def ValueOffsetsCardSaid : Prop := Claim7.holds Tryd.pinned (.plain (OpenSpec.ofChange valueOffsetsSpec)) valueOffsetsCard

/-- THE TIED CARD OF 'trystlaw12.ValueReads'. -/
def valueReadsCard : Claim7 := { stood := { row := valueReadsRow, standIns := [], harness := (true, "9b903fd030f941aea96b085c9c6837fad59934b36873bed15cbe0af592974aa1"), looks := true }, kinds := [], alts := [], laidByText := true, laidKinds := [.data, .data, .data], laidTests := true, laidLooks := .later }
def ValueReadsCardSaid : Prop := Claim7.holds Tryd.pinned (.plain (OpenSpec.ofChange valueReadsSpec)) valueReadsCard

/-- THE TIED CARD OF 'trystlaw12.ValueTimes'. -/
def valueTimesCard : Claim7 := { stood := { row := valueTimesRow, standIns := [], harness := (true, "9b903fd030f941aea96b085c9c6837fad59934b36873bed15cbe0af592974aa1"), looks := true }, kinds := [], alts := [], laidByText := true, laidKinds := [.data, .data, .data], laidTests := true, laidLooks := .later }
def ValueTimesCardSaid : Prop := Claim7.holds Tryd.pinned (.plain (OpenSpec.ofChange valueTimesSpec)) valueTimesCard

/-- THE TIED CARD OF 'trystlaw12.ValueDurations'. -/
def valueDurationsCard : Claim7 := { stood := { row := valueDurationsRow, standIns := [], harness := (true, "9b903fd030f941aea96b085c9c6837fad59934b36873bed15cbe0af592974aa1"), looks := true }, kinds := [], alts := [], laidByText := true, laidKinds := [.data, .data, .data, .sentinel, .sentinel], laidTests := true, laidLooks := .later }
def ValueDurationsCardSaid : Prop := Claim7.holds Tryd.pinned (.plain (OpenSpec.ofChange valueDurationsSpec)) valueDurationsCard

/-- THE TIED CARD OF 'trystlaw12.ValueSpans'. -/
def valueSpansCard : Claim7 := { stood := { row := valueSpansRow, standIns := [], harness := (true, "9b903fd030f941aea96b085c9c6837fad59934b36873bed15cbe0af592974aa1"), looks := true }, kinds := [], alts := [], laidByText := true, laidKinds := [.data, .data, .data, .sentinel, .sentinel], laidTests := true, laidLooks := .later }
def ValueSpansCardSaid : Prop := Claim7.holds Tryd.pinned (.plain (OpenSpec.ofChange valueSpansSpec)) valueSpansCard

/-- THE SECOND FORM's CARD OF 'trystlaw12.ValueNumbers'. -/
def valueNumbersUptoCard : Claim7 := { stood := { row := valueNumbersUptoRow, standIns := [], harness := (true, "9b903fd030f941aea96b085c9c6837fad59934b36873bed15cbe0af592974aa1"), looks := true }, kinds := [], alts := [], laidByText := true, laidKinds := [.data, .data, .data], laidTests := true, laidLooks := .later }
def ValueNumbersUptoCardSaid : Prop := Claim7.holds Tryd.pinned (.plain (OpenSpec.upto valueNumbersSpec)) valueNumbersUptoCard

/-- THE SECOND FORM's CARD OF 'trystlaw12.ValueOffsets'. -/
def valueOffsetsUptoCard : Claim7 := { stood := { row := valueOffsetsUptoRow, standIns := [], harness := (true, "9b903fd030f941aea96b085c9c6837fad59934b36873bed15cbe0af592974aa1"), looks := true }, kinds := [], alts := [], laidByText := true, laidKinds := [.data, .data, .data], laidTests := true, laidLooks := .later }
def ValueOffsetsUptoCardSaid : Prop := Claim7.holds Tryd.pinned (.plain (OpenSpec.upto valueOffsetsSpec)) valueOffsetsUptoCard

/-- THE SECOND FORM's CARD OF 'trystlaw12.ValueReads'. -/
def valueReadsUptoCard : Claim7 := { stood := { row := valueReadsUptoRow, standIns := [], harness := (true, "9b903fd030f941aea96b085c9c6837fad59934b36873bed15cbe0af592974aa1"), looks := true }, kinds := [], alts := [], laidByText := true, laidKinds := [.data, .data, .data], laidTests := true, laidLooks := .later }
def ValueReadsUptoCardSaid : Prop := Claim7.holds Tryd.pinned (.plain (OpenSpec.upto valueReadsSpec)) valueReadsUptoCard

/-- THE SECOND FORM's CARD OF 'trystlaw12.ValueTimes'. -/
def valueTimesUptoCard : Claim7 := { stood := { row := valueTimesUptoRow, standIns := [], harness := (true, "9b903fd030f941aea96b085c9c6837fad59934b36873bed15cbe0af592974aa1"), looks := true }, kinds := [], alts := [], laidByText := true, laidKinds := [.data, .data, .data], laidTests := true, laidLooks := .later }
def ValueTimesUptoCardSaid : Prop := Claim7.holds Tryd.pinned (.plain (OpenSpec.upto valueTimesSpec)) valueTimesUptoCard

/-- THE SECOND FORM's CARD OF 'trystlaw12.ValueDurations'. -/
def valueDurationsUptoCard : Claim7 := { stood := { row := valueDurationsUptoRow, standIns := [], harness := (true, "9b903fd030f941aea96b085c9c6837fad59934b36873bed15cbe0af592974aa1"), looks := true }, kinds := [], alts := [], laidByText := true, laidKinds := [.data, .data, .data, .sentinel, .sentinel], laidTests := true, laidLooks := .later }
def ValueDurationsUptoCardSaid : Prop := Claim7.holds Tryd.pinned (.plain (OpenSpec.upto valueDurationsSpec)) valueDurationsUptoCard

/-- THE SECOND FORM's CARD OF 'trystlaw12.ValueSpans'. -/
def valueSpansUptoCard : Claim7 := { stood := { row := valueSpansUptoRow, standIns := [], harness := (true, "9b903fd030f941aea96b085c9c6837fad59934b36873bed15cbe0af592974aa1"), looks := true }, kinds := [], alts := [], laidByText := true, laidKinds := [.data, .data, .data, .sentinel, .sentinel], laidTests := true, laidLooks := .later }
def ValueSpansUptoCardSaid : Prop := Claim7.holds Tryd.pinned (.plain (OpenSpec.upto valueSpansSpec)) valueSpansUptoCard
end Rows
end Go.Proofs.YthppkdbelmolbaaDoor
