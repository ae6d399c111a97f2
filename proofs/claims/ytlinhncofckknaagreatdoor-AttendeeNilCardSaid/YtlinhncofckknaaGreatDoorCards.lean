/-
  DERIVED. GIVEN WITH THE SEED: THE CARDS: each row of YtlinhncofckknaaGreatDoorRows.lean that lists a variable, with what it lists TIED to the program's text (the seventh form; the later family's looks); each row that meets fmt, with fmt's text TOLD by the authors' own Lean function (tested against real Go, not proved from fmt's source: count such statements apart). THE CARD IS WHAT COUNTS. Prove the row's statement (the work); the ties are given (YtlinhncofckknaaGreatDoorTie.lean); close each card by the builder's one call (the guide's Derived/Test/ToyasCard.lean, 'card_holds'). Laid BY PROGRAM, IN A SANDBOX (cutbox-door.mjs). By AI agents, Wed Nov 11 2026. No macro, syntax, notation, axiom, sorry.
-/
import Derived.Test.YtlinhncofckknaaGreatDoorRows
import GoSem.ClaimSeven
namespace Go.Proofs.YtlinhncofckknaaGreatDoor
namespace Rows

/-- THE TIED CARD OF 'trystlaw24.AttendeeRises'. -/
def attendeeRisesCard : Claim7 := { stood := { row := attendeeRisesRow, standIns := [], harness := (true, "383309aae4e24ed00e6a1d51d78148f8fa71662339affdeb4858dee90bc6e5e0"), looks := false }, kinds := [], alts := [], laidByText := true, laidKinds := [.data, .widerDeep, .pinned], laidTests := true, laidLooks := .later }
def AttendeeRisesCardSaid : Prop := Claim7.holds Tryz.pinned (.plain (OpenSpec.ofChange attendeeRisesSpec)) attendeeRisesCard

/-- THE TIED CARD OF 'trystlaw24.AttendeeTwice'. -/
def attendeeTwiceCard : Claim7 := { stood := { row := attendeeTwiceRow, standIns := [], harness := (true, "383309aae4e24ed00e6a1d51d78148f8fa71662339affdeb4858dee90bc6e5e0"), looks := false }, kinds := [], alts := [], laidByText := true, laidKinds := [.data, .widerDeep, .pinned], laidTests := true, laidLooks := .later }
def AttendeeTwiceCardSaid : Prop := Claim7.holds Tryz.pinned (.plain (OpenSpec.ofChange attendeeTwiceSpec)) attendeeTwiceCard

/-- THE TIED CARD OF 'trystlaw24.AttendeeNil'. -/
def attendeeNilCard : Claim7 := { stood := { row := attendeeNilRow, standIns := [], harness := (true, "383309aae4e24ed00e6a1d51d78148f8fa71662339affdeb4858dee90bc6e5e0"), looks := false }, kinds := [], alts := [], laidByText := true, laidKinds := [.data, .widerDeep, .pinned], laidTests := true, laidLooks := .later }
def AttendeeNilCardSaid : Prop := Claim7.holds Tryz.pinned (.plain (OpenSpec.ofChange attendeeNilSpec)) attendeeNilCard

/-- THE SECOND FORM's CARD OF 'trystlaw24.AttendeeRises'. -/
def attendeeRisesUptoCard : Claim7 := { stood := { row := attendeeRisesUptoRow, standIns := [], harness := (true, "383309aae4e24ed00e6a1d51d78148f8fa71662339affdeb4858dee90bc6e5e0"), looks := false }, kinds := [], alts := [], laidByText := true, laidKinds := [.data, .widerDeep, .pinned], laidTests := true, laidLooks := .later }
def AttendeeRisesUptoCardSaid : Prop := Claim7.holds Tryz.pinned (.plain (OpenSpec.upto attendeeRisesSpec)) attendeeRisesUptoCard

/-- THE SECOND FORM's CARD OF 'trystlaw24.AttendeeTwice'. -/
def attendeeTwiceUptoCard : Claim7 := { stood := { row := attendeeTwiceUptoRow, standIns := [], harness := (true, "383309aae4e24ed00e6a1d51d78148f8fa71662339affdeb4858dee90bc6e5e0"), looks := false }, kinds := [], alts := [], laidByText := true, laidKinds := [.data, .widerDeep, .pinned], laidTests := true, laidLooks := .later }
def AttendeeTwiceUptoCardSaid : Prop := Claim7.holds Tryz.pinned (.plain (OpenSpec.upto attendeeTwiceSpec)) attendeeTwiceUptoCard

/-- THE SECOND FORM's CARD OF 'trystlaw24.AttendeeNil'. -/
def attendeeNilUptoCard : Claim7 := { stood := { row := attendeeNilUptoRow, standIns := [], harness := (true, "383309aae4e24ed00e6a1d51d78148f8fa71662339affdeb4858dee90bc6e5e0"), looks := false }, kinds := [], alts := [], laidByText := true, laidKinds := [.data, .widerDeep, .pinned], laidTests := true, laidLooks := .later }
def AttendeeNilUptoCardSaid : Prop := Claim7.holds Tryz.pinned (.plain (OpenSpec.upto attendeeNilSpec)) attendeeNilUptoCard
end Rows
end Go.Proofs.YtlinhncofckknaaGreatDoor
