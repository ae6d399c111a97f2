/-
  DERIVED. GIVEN WITH THE SEED: THE CARDS: each row of YtddoidcbpcmlaaaDoorRows.lean that lists a variable, with what it lists TIED to the program's text (the seventh form; the later family's looks); each row that meets fmt, with fmt's text TOLD by the authors' own Lean function (tested against real Go, not proved from fmt's source: count such statements apart). THE CARD IS WHAT COUNTS. Prove the row's statement (the work); the ties are given (YtddoidcbpcmlaaaDoorTie.lean); close each card by the builder's one call (the guide's Derived/Test/ToyasCard.lean, 'card_holds'). Laid BY PROGRAM, IN A SANDBOX (cutbox-door.mjs). By AI agents, Wed Nov 11 2026. No macro, syntax, notation, axiom, sorry.
-/
import Derived.Test.YtddoidcbpcmlaaaDoorRows
import GoSem.ClaimSeven
namespace Go.Proofs.YtddoidcbpcmlaaaDoor
namespace Rows

/-- THE TIED CARD OF 'trystlaw18.EventForms'. -/
def eventFormsCard : Claim7 := { stood := { row := eventFormsRow, standIns := [], harness := (true, "6df9bc4d54ed6bef5be726f0fbd0b453b42af4c2d6fb31361e416335555b7f9e"), looks := false }, kinds := [], alts := [], laidByText := true, laidKinds := [.data, .pinned], laidTests := true, laidLooks := .later }
def EventFormsCardSaid : Prop := Claim7.holds Tryd.pinned (.plain (OpenSpec.ofChange eventFormsSpec)) eventFormsCard

/-- THE SECOND FORM's CARD OF 'trystlaw18.EventForms'. -/
def eventFormsUptoCard : Claim7 := { stood := { row := eventFormsUptoRow, standIns := [], harness := (true, "6df9bc4d54ed6bef5be726f0fbd0b453b42af4c2d6fb31361e416335555b7f9e"), looks := false }, kinds := [], alts := [], laidByText := true, laidKinds := [.data, .pinned], laidTests := true, laidLooks := .later }
def EventFormsUptoCardSaid : Prop := Claim7.holds Tryd.pinned (.plain (OpenSpec.upto eventFormsSpec)) eventFormsUptoCard
end Rows
end Go.Proofs.YtddoidcbpcmlaaaDoor
