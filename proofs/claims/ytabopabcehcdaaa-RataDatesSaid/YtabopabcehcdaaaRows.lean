/-
  No cell of these rows narrows 'for every input' (looked for: loops, veiled, ifaces, maps, wideKeys, modest, calm, conditions, laid).
  DERIVED. THE GIVEN ROWS OF THIS SEAT. 18 by the template 'for every input the law returns true; each argument reads behind the call as it read before'; 0 by the template 'total and deterministic' (their statements: YtabopabcehcdaaaTotals.lean).
  GIVEN WITH THE SEED: the statements are not yours to turn. If you find one false, say at which input.
  Laid BY PROGRAM, IN A SANDBOX (cutbox-rows.mjs): the forced cells as the released guide's own fill.sh prints them over the translation 4752643dd09e0337… (all of the seat's roots in one cut). By AI agents, Wed Nov 11 2026. No macro, syntax, notation, axiom, sorry.
-/
import Derived.Test.YtabopabcehcdaaaChecked
import GoSem.Claim
import GoSem.ClaimJoined
import GoSem.ClaimMapViews
import Derived.JoinedTies
import Derived.KernelRfl
namespace Go.Proofs.Ytabopabcehcdaaa
/- THE CELL 'sum', in the pinned program and in every row, IS THE sha256 OF THE DUMP (.gsa) THAT YtabopabcehcdaaaProg.lean LOADS. Nothing in Lean hashes anything: it is a label: what it is worth is what the hold of that sum in a sandbox is worth. -/
noncomputable def Try.pinned : Pinned := { name := "ytabopabcehcdaaa", sum := "4752643dd09e03372c8162d1ded86fdaa548dae73c2c6de46204aa01abdd5e49", checked := Try.checked }
namespace Rows
def none {H : Type} : Left H := { results := [], args := [] }

/-- 'trystlaw03.IsoDays': WHATEVER THE INPUT: true; the input reads as it did. -/
def isoDaysSpec : ChangeSpec := { name := "isoDays", fn := fun _ => fun
  | [d] => { results := [.lit (.bool true)], args := [d] }
  | _ => none }
def isoDaysRow : OpenClaim := { program := "ytabopabcehcdaaa", sum := "4752643dd09e03372c8162d1ded86fdaa548dae73c2c6de46204aa01abdd5e49", func := "tryst/trystlaw03.IsoDays", spec := "isoDays", apart := false }
def IsoDaysSaid : Prop := isoDaysRow.holds Try.pinned (OpenSpec.ofChange isoDaysSpec)

/-- ITS FALSE NEIGHBOUR: 'it returns false'. Refute it at one input. -/
def isoDaysWrong : ChangeSpec := { name := "isoDays", fn := fun _ => fun
  | [d] => { results := [.lit (.bool false)], args := [d] }
  | _ => none }
def IsoDaysWrongFalsely : Prop := isoDaysRow.holds Try.pinned (OpenSpec.ofChange isoDaysWrong)

/-- 'trystlaw01.RataDays': WHATEVER THE INPUT: true; the input reads as it did. -/
def rataDaysSpec : ChangeSpec := { name := "rataDays", fn := fun _ => fun
  | [d] => { results := [.lit (.bool true)], args := [d] }
  | _ => none }
def rataDaysRow : OpenClaim := { program := "ytabopabcehcdaaa", sum := "4752643dd09e03372c8162d1ded86fdaa548dae73c2c6de46204aa01abdd5e49", func := "tryst/trystlaw01.RataDays", spec := "rataDays", apart := false }
def RataDaysSaid : Prop := rataDaysRow.holds Try.pinned (OpenSpec.ofChange rataDaysSpec)

/-- ITS FALSE NEIGHBOUR: 'it returns false'. Refute it at one input. -/
def rataDaysWrong : ChangeSpec := { name := "rataDays", fn := fun _ => fun
  | [d] => { results := [.lit (.bool false)], args := [d] }
  | _ => none }
def RataDaysWrongFalsely : Prop := rataDaysRow.holds Try.pinned (OpenSpec.ofChange rataDaysWrong)

/-- 'trystlaw01.RataMonths': WHATEVER THE INPUT: true; the input reads as it did. -/
def rataMonthsSpec : ChangeSpec := { name := "rataMonths", fn := fun _ => fun
  | [d1, d2] => { results := [.lit (.bool true)], args := [d1, d2] }
  | _ => none }
def rataMonthsRow : OpenClaim := { program := "ytabopabcehcdaaa", sum := "4752643dd09e03372c8162d1ded86fdaa548dae73c2c6de46204aa01abdd5e49", func := "tryst/trystlaw01.RataMonths", spec := "rataMonths", apart := false }
def RataMonthsSaid : Prop := rataMonthsRow.holds Try.pinned (OpenSpec.ofChange rataMonthsSpec)

/-- ITS FALSE NEIGHBOUR: 'it returns false'. Refute it at one input. -/
def rataMonthsWrong : ChangeSpec := { name := "rataMonths", fn := fun _ => fun
  | [d1, d2] => { results := [.lit (.bool false)], args := [d1, d2] }
  | _ => none }
def RataMonthsWrongFalsely : Prop := rataMonthsRow.holds Try.pinned (OpenSpec.ofChange rataMonthsWrong)

/-- 'trystlaw01.RataAdds': WHATEVER THE INPUT: true; the input reads as it did. -/
def rataAddsSpec : ChangeSpec := { name := "rataAdds", fn := fun _ => fun
  | [d1, d2] => { results := [.lit (.bool true)], args := [d1, d2] }
  | _ => none }
def rataAddsRow : OpenClaim := { program := "ytabopabcehcdaaa", sum := "4752643dd09e03372c8162d1ded86fdaa548dae73c2c6de46204aa01abdd5e49", func := "tryst/trystlaw01.RataAdds", spec := "rataAdds", apart := false }
def RataAddsSaid : Prop := rataAddsRow.holds Try.pinned (OpenSpec.ofChange rataAddsSpec)

/-- ITS FALSE NEIGHBOUR: 'it returns false'. Refute it at one input. -/
def rataAddsWrong : ChangeSpec := { name := "rataAdds", fn := fun _ => fun
  | [d1, d2] => { results := [.lit (.bool false)], args := [d1, d2] }
  | _ => none }
def RataAddsWrongFalsely : Prop := rataAddsRow.holds Try.pinned (OpenSpec.ofChange rataAddsWrong)

/-- 'trystlaw02.JulianDays': WHATEVER THE INPUT: true; the input reads as it did. -/
def julianDaysSpec : ChangeSpec := { name := "julianDays", fn := fun _ => fun
  | [d] => { results := [.lit (.bool true)], args := [d] }
  | _ => none }
def julianDaysRow : OpenClaim := { program := "ytabopabcehcdaaa", sum := "4752643dd09e03372c8162d1ded86fdaa548dae73c2c6de46204aa01abdd5e49", func := "tryst/trystlaw02.JulianDays", spec := "julianDays", apart := false }
def JulianDaysSaid : Prop := julianDaysRow.holds Try.pinned (OpenSpec.ofChange julianDaysSpec)

/-- ITS FALSE NEIGHBOUR: 'it returns false'. Refute it at one input. -/
def julianDaysWrong : ChangeSpec := { name := "julianDays", fn := fun _ => fun
  | [d] => { results := [.lit (.bool false)], args := [d] }
  | _ => none }
def JulianDaysWrongFalsely : Prop := julianDaysRow.holds Try.pinned (OpenSpec.ofChange julianDaysWrong)

/-- 'trystlaw02.CopticDates': WHATEVER THE INPUT: true; the input reads as it did. -/
def copticDatesSpec : ChangeSpec := { name := "copticDates", fn := fun _ => fun
  | [d] => { results := [.lit (.bool true)], args := [d] }
  | _ => none }
def copticDatesRow : OpenClaim := { program := "ytabopabcehcdaaa", sum := "4752643dd09e03372c8162d1ded86fdaa548dae73c2c6de46204aa01abdd5e49", func := "tryst/trystlaw02.CopticDates", spec := "copticDates", apart := false }
def CopticDatesSaid : Prop := copticDatesRow.holds Try.pinned (OpenSpec.ofChange copticDatesSpec)

/-- ITS FALSE NEIGHBOUR: 'it returns false'. Refute it at one input. -/
def copticDatesWrong : ChangeSpec := { name := "copticDates", fn := fun _ => fun
  | [d] => { results := [.lit (.bool false)], args := [d] }
  | _ => none }
def CopticDatesWrongFalsely : Prop := copticDatesRow.holds Try.pinned (OpenSpec.ofChange copticDatesWrong)

/-- 'trystlaw02.CopticNext': WHATEVER THE INPUT: true; the input reads as it did. -/
def copticNextSpec : ChangeSpec := { name := "copticNext", fn := fun _ => fun
  | [d] => { results := [.lit (.bool true)], args := [d] }
  | _ => none }
def copticNextRow : OpenClaim := { program := "ytabopabcehcdaaa", sum := "4752643dd09e03372c8162d1ded86fdaa548dae73c2c6de46204aa01abdd5e49", func := "tryst/trystlaw02.CopticNext", spec := "copticNext", apart := false }
def CopticNextSaid : Prop := copticNextRow.holds Try.pinned (OpenSpec.ofChange copticNextSpec)

/-- ITS FALSE NEIGHBOUR: 'it returns false'. Refute it at one input. -/
def copticNextWrong : ChangeSpec := { name := "copticNext", fn := fun _ => fun
  | [d] => { results := [.lit (.bool false)], args := [d] }
  | _ => none }
def CopticNextWrongFalsely : Prop := copticNextRow.holds Try.pinned (OpenSpec.ofChange copticNextWrong)

/-- 'trystlaw01.RataBack': WHATEVER THE INPUT: true; the input reads as it did. -/
def rataBackSpec : ChangeSpec := { name := "rataBack", fn := fun _ => fun
  | [d] => { results := [.lit (.bool true)], args := [d] }
  | _ => none }
def rataBackRow : OpenClaim := { program := "ytabopabcehcdaaa", sum := "4752643dd09e03372c8162d1ded86fdaa548dae73c2c6de46204aa01abdd5e49", func := "tryst/trystlaw01.RataBack", spec := "rataBack", apart := false }
def RataBackSaid : Prop := rataBackRow.holds Try.pinned (OpenSpec.ofChange rataBackSpec)

/-- ITS FALSE NEIGHBOUR: 'it returns false'. Refute it at one input. -/
def rataBackWrong : ChangeSpec := { name := "rataBack", fn := fun _ => fun
  | [d] => { results := [.lit (.bool false)], args := [d] }
  | _ => none }
def RataBackWrongFalsely : Prop := rataBackRow.holds Try.pinned (OpenSpec.ofChange rataBackWrong)

/-- 'trystlaw01.RataNext': WHATEVER THE INPUT: true; the input reads as it did. -/
def rataNextSpec : ChangeSpec := { name := "rataNext", fn := fun _ => fun
  | [d] => { results := [.lit (.bool true)], args := [d] }
  | _ => none }
def rataNextRow : OpenClaim := { program := "ytabopabcehcdaaa", sum := "4752643dd09e03372c8162d1ded86fdaa548dae73c2c6de46204aa01abdd5e49", func := "tryst/trystlaw01.RataNext", spec := "rataNext", apart := false }
def RataNextSaid : Prop := rataNextRow.holds Try.pinned (OpenSpec.ofChange rataNextSpec)

/-- ITS FALSE NEIGHBOUR: 'it returns false'. Refute it at one input. -/
def rataNextWrong : ChangeSpec := { name := "rataNext", fn := fun _ => fun
  | [d] => { results := [.lit (.bool false)], args := [d] }
  | _ => none }
def RataNextWrongFalsely : Prop := rataNextRow.holds Try.pinned (OpenSpec.ofChange rataNextWrong)

/-- 'trystlaw02.JulianDates': WHATEVER THE INPUT: true; the input reads as it did. -/
def julianDatesSpec : ChangeSpec := { name := "julianDates", fn := fun _ => fun
  | [d] => { results := [.lit (.bool true)], args := [d] }
  | _ => none }
def julianDatesRow : OpenClaim := { program := "ytabopabcehcdaaa", sum := "4752643dd09e03372c8162d1ded86fdaa548dae73c2c6de46204aa01abdd5e49", func := "tryst/trystlaw02.JulianDates", spec := "julianDates", apart := false }
def JulianDatesSaid : Prop := julianDatesRow.holds Try.pinned (OpenSpec.ofChange julianDatesSpec)

/-- ITS FALSE NEIGHBOUR: 'it returns false'. Refute it at one input. -/
def julianDatesWrong : ChangeSpec := { name := "julianDates", fn := fun _ => fun
  | [d] => { results := [.lit (.bool false)], args := [d] }
  | _ => none }
def JulianDatesWrongFalsely : Prop := julianDatesRow.holds Try.pinned (OpenSpec.ofChange julianDatesWrong)

/-- 'trystlaw02.JulianBack': WHATEVER THE INPUT: true; the input reads as it did. -/
def julianBackSpec : ChangeSpec := { name := "julianBack", fn := fun _ => fun
  | [d1, d2] => { results := [.lit (.bool true)], args := [d1, d2] }
  | _ => none }
def julianBackRow : OpenClaim := { program := "ytabopabcehcdaaa", sum := "4752643dd09e03372c8162d1ded86fdaa548dae73c2c6de46204aa01abdd5e49", func := "tryst/trystlaw02.JulianBack", spec := "julianBack", apart := false }
def JulianBackSaid : Prop := julianBackRow.holds Try.pinned (OpenSpec.ofChange julianBackSpec)

/-- ITS FALSE NEIGHBOUR: 'it returns false'. Refute it at one input. -/
def julianBackWrong : ChangeSpec := { name := "julianBack", fn := fun _ => fun
  | [d1, d2] => { results := [.lit (.bool false)], args := [d1, d2] }
  | _ => none }
def JulianBackWrongFalsely : Prop := julianBackRow.holds Try.pinned (OpenSpec.ofChange julianBackWrong)

/-- 'trystlaw02.JulianNext': WHATEVER THE INPUT: true; the input reads as it did. -/
def julianNextSpec : ChangeSpec := { name := "julianNext", fn := fun _ => fun
  | [d] => { results := [.lit (.bool true)], args := [d] }
  | _ => none }
def julianNextRow : OpenClaim := { program := "ytabopabcehcdaaa", sum := "4752643dd09e03372c8162d1ded86fdaa548dae73c2c6de46204aa01abdd5e49", func := "tryst/trystlaw02.JulianNext", spec := "julianNext", apart := false }
def JulianNextSaid : Prop := julianNextRow.holds Try.pinned (OpenSpec.ofChange julianNextSpec)

/-- ITS FALSE NEIGHBOUR: 'it returns false'. Refute it at one input. -/
def julianNextWrong : ChangeSpec := { name := "julianNext", fn := fun _ => fun
  | [d] => { results := [.lit (.bool false)], args := [d] }
  | _ => none }
def JulianNextWrongFalsely : Prop := julianNextRow.holds Try.pinned (OpenSpec.ofChange julianNextWrong)

/-- 'trystlaw02.CopticDays': WHATEVER THE INPUT: true; the input reads as it did. -/
def copticDaysSpec : ChangeSpec := { name := "copticDays", fn := fun _ => fun
  | [d] => { results := [.lit (.bool true)], args := [d] }
  | _ => none }
def copticDaysRow : OpenClaim := { program := "ytabopabcehcdaaa", sum := "4752643dd09e03372c8162d1ded86fdaa548dae73c2c6de46204aa01abdd5e49", func := "tryst/trystlaw02.CopticDays", spec := "copticDays", apart := false }
def CopticDaysSaid : Prop := copticDaysRow.holds Try.pinned (OpenSpec.ofChange copticDaysSpec)

/-- ITS FALSE NEIGHBOUR: 'it returns false'. Refute it at one input. -/
def copticDaysWrong : ChangeSpec := { name := "copticDays", fn := fun _ => fun
  | [d] => { results := [.lit (.bool false)], args := [d] }
  | _ => none }
def CopticDaysWrongFalsely : Prop := copticDaysRow.holds Try.pinned (OpenSpec.ofChange copticDaysWrong)

/-- 'trystlaw03.IsoDates': WHATEVER THE INPUT: true; the input reads as it did. -/
def isoDatesSpec : ChangeSpec := { name := "isoDates", fn := fun _ => fun
  | [d] => { results := [.lit (.bool true)], args := [d] }
  | _ => none }
def isoDatesRow : OpenClaim := { program := "ytabopabcehcdaaa", sum := "4752643dd09e03372c8162d1ded86fdaa548dae73c2c6de46204aa01abdd5e49", func := "tryst/trystlaw03.IsoDates", spec := "isoDates", apart := false }
def IsoDatesSaid : Prop := isoDatesRow.holds Try.pinned (OpenSpec.ofChange isoDatesSpec)

/-- ITS FALSE NEIGHBOUR: 'it returns false'. Refute it at one input. -/
def isoDatesWrong : ChangeSpec := { name := "isoDates", fn := fun _ => fun
  | [d] => { results := [.lit (.bool false)], args := [d] }
  | _ => none }
def IsoDatesWrongFalsely : Prop := isoDatesRow.holds Try.pinned (OpenSpec.ofChange isoDatesWrong)

/-- 'trystlaw03.IsoBack': WHATEVER THE INPUT: true; the input reads as it did. -/
def isoBackSpec : ChangeSpec := { name := "isoBack", fn := fun _ => fun
  | [d1, d2] => { results := [.lit (.bool true)], args := [d1, d2] }
  | _ => none }
def isoBackRow : OpenClaim := { program := "ytabopabcehcdaaa", sum := "4752643dd09e03372c8162d1ded86fdaa548dae73c2c6de46204aa01abdd5e49", func := "tryst/trystlaw03.IsoBack", spec := "isoBack", apart := false }
def IsoBackSaid : Prop := isoBackRow.holds Try.pinned (OpenSpec.ofChange isoBackSpec)

/-- ITS FALSE NEIGHBOUR: 'it returns false'. Refute it at one input. -/
def isoBackWrong : ChangeSpec := { name := "isoBack", fn := fun _ => fun
  | [d1, d2] => { results := [.lit (.bool false)], args := [d1, d2] }
  | _ => none }
def IsoBackWrongFalsely : Prop := isoBackRow.holds Try.pinned (OpenSpec.ofChange isoBackWrong)

/-- 'trystlaw03.IsoNext': WHATEVER THE INPUT: true; the input reads as it did. -/
def isoNextSpec : ChangeSpec := { name := "isoNext", fn := fun _ => fun
  | [d] => { results := [.lit (.bool true)], args := [d] }
  | _ => none }
def isoNextRow : OpenClaim := { program := "ytabopabcehcdaaa", sum := "4752643dd09e03372c8162d1ded86fdaa548dae73c2c6de46204aa01abdd5e49", func := "tryst/trystlaw03.IsoNext", spec := "isoNext", apart := false }
def IsoNextSaid : Prop := isoNextRow.holds Try.pinned (OpenSpec.ofChange isoNextSpec)

/-- ITS FALSE NEIGHBOUR: 'it returns false'. Refute it at one input. -/
def isoNextWrong : ChangeSpec := { name := "isoNext", fn := fun _ => fun
  | [d] => { results := [.lit (.bool false)], args := [d] }
  | _ => none }
def IsoNextWrongFalsely : Prop := isoNextRow.holds Try.pinned (OpenSpec.ofChange isoNextWrong)

/-- 'trystlaw03.IsoWeeks': WHATEVER THE INPUT: true; the input reads as it did. -/
def isoWeeksSpec : ChangeSpec := { name := "isoWeeks", fn := fun _ => fun
  | [d1, d2, d3] => { results := [.lit (.bool true)], args := [d1, d2, d3] }
  | _ => none }
def isoWeeksRow : OpenClaim := { program := "ytabopabcehcdaaa", sum := "4752643dd09e03372c8162d1ded86fdaa548dae73c2c6de46204aa01abdd5e49", func := "tryst/trystlaw03.IsoWeeks", spec := "isoWeeks", apart := false }
def IsoWeeksSaid : Prop := isoWeeksRow.holds Try.pinned (OpenSpec.ofChange isoWeeksSpec)

/-- ITS FALSE NEIGHBOUR: 'it returns false'. Refute it at one input. -/
def isoWeeksWrong : ChangeSpec := { name := "isoWeeks", fn := fun _ => fun
  | [d1, d2, d3] => { results := [.lit (.bool false)], args := [d1, d2, d3] }
  | _ => none }
def IsoWeeksWrongFalsely : Prop := isoWeeksRow.holds Try.pinned (OpenSpec.ofChange isoWeeksWrong)

/-- 'trystlaw01.RataDates': WHATEVER THE INPUT: true; the input reads as it did. -/
def rataDatesSpec : ChangeSpec := { name := "rataDates", fn := fun _ => fun
  | [d] => { results := [.lit (.bool true)], args := [d] }
  | _ => none }
def rataDatesRow : OpenClaim := { program := "ytabopabcehcdaaa", sum := "4752643dd09e03372c8162d1ded86fdaa548dae73c2c6de46204aa01abdd5e49", func := "tryst/trystlaw01.RataDates", spec := "rataDates", apart := false }
def RataDatesSaid : Prop := rataDatesRow.holds Try.pinned (OpenSpec.ofChange rataDatesSpec)

/-- ITS FALSE NEIGHBOUR: 'it returns false'. Refute it at one input. -/
def rataDatesWrong : ChangeSpec := { name := "rataDates", fn := fun _ => fun
  | [d] => { results := [.lit (.bool false)], args := [d] }
  | _ => none }
def RataDatesWrongFalsely : Prop := rataDatesRow.holds Try.pinned (OpenSpec.ofChange rataDatesWrong)

/- THE SECOND FORM. 'bulk': how many values and letters a reading holds, each counted each time it is reached (what is shared counts as often as it is met; a slice's spare places count too). A statement '..UptoSaid' is the law's where the arguments, and the package variables that the reading takes, are together of bulk at most 1048576: NARROWER than '..Said'. Prove '..Said' where nothing that the law and all that it calls make is longer than what came in: it says more and counts as full. Else prove '..UptoSaid'. A law counts once. -/
mutual
def uptoBulk {H : Type} : DataW H → Nat
  | .lit (.string bytes) => bytes.length + 1
  | .lit _ => 1
  | .nil => 1
  | .ptr d => uptoBulk d + 1
  | .slice elems spare => uptoBulkAll elems + uptoBulkAll spare + 1
  | .agg parts => uptoBulkAll parts + 1
  | .iface _ d => uptoBulk d + 1
  | .map entries => uptoBulkEntries entries + 1
  | .held _ => 1
def uptoBulkAll {H : Type} : List (DataW H) → Nat
  | [] => 0
  | d :: r => uptoBulk d + uptoBulkAll r
def uptoBulkEntries {H : Type} : List (Lit × DataW H) → Nat
  | [] => 0
  | x :: r => uptoBulkEntry x + uptoBulkEntries r
def uptoBulkEntry {H : Type} : Lit × DataW H → Nat
  | (.string bytes, d) => bytes.length + uptoBulk d + 1
  | (_, d) => uptoBulk d + 1
 end
def uptoSmall : (H : Type) → List (DataW H) → Bool := fun _ ds => decide (uptoBulkAll ds ≤ 1048576)
def OpenSpec.upto (s : _root_.Go.ChangeSpec) : _root_.Go.OpenSpec := { _root_.Go.OpenSpec.ofChange s with cond := some uptoSmall }

/-- 'trystlaw03.IsoDays', WHERE WHAT IT READS IS OF BULK AT MOST 1048576: true; the input reads as it did. -/
def isoDaysUptoRow : OpenClaim := { program := "ytabopabcehcdaaa", sum := "4752643dd09e03372c8162d1ded86fdaa548dae73c2c6de46204aa01abdd5e49", func := "tryst/trystlaw03.IsoDays", spec := "isoDays", apart := false, narrowed := true }
def IsoDaysUptoSaid : Prop := isoDaysUptoRow.holds Try.pinned (OpenSpec.upto isoDaysSpec)

/-- 'trystlaw01.RataDays', WHERE WHAT IT READS IS OF BULK AT MOST 1048576: true; the input reads as it did. -/
def rataDaysUptoRow : OpenClaim := { program := "ytabopabcehcdaaa", sum := "4752643dd09e03372c8162d1ded86fdaa548dae73c2c6de46204aa01abdd5e49", func := "tryst/trystlaw01.RataDays", spec := "rataDays", apart := false, narrowed := true }
def RataDaysUptoSaid : Prop := rataDaysUptoRow.holds Try.pinned (OpenSpec.upto rataDaysSpec)

/-- 'trystlaw01.RataMonths', WHERE WHAT IT READS IS OF BULK AT MOST 1048576: true; the input reads as it did. -/
def rataMonthsUptoRow : OpenClaim := { program := "ytabopabcehcdaaa", sum := "4752643dd09e03372c8162d1ded86fdaa548dae73c2c6de46204aa01abdd5e49", func := "tryst/trystlaw01.RataMonths", spec := "rataMonths", apart := false, narrowed := true }
def RataMonthsUptoSaid : Prop := rataMonthsUptoRow.holds Try.pinned (OpenSpec.upto rataMonthsSpec)

/-- 'trystlaw01.RataAdds', WHERE WHAT IT READS IS OF BULK AT MOST 1048576: true; the input reads as it did. -/
def rataAddsUptoRow : OpenClaim := { program := "ytabopabcehcdaaa", sum := "4752643dd09e03372c8162d1ded86fdaa548dae73c2c6de46204aa01abdd5e49", func := "tryst/trystlaw01.RataAdds", spec := "rataAdds", apart := false, narrowed := true }
def RataAddsUptoSaid : Prop := rataAddsUptoRow.holds Try.pinned (OpenSpec.upto rataAddsSpec)

/-- 'trystlaw02.JulianDays', WHERE WHAT IT READS IS OF BULK AT MOST 1048576: true; the input reads as it did. -/
def julianDaysUptoRow : OpenClaim := { program := "ytabopabcehcdaaa", sum := "4752643dd09e03372c8162d1ded86fdaa548dae73c2c6de46204aa01abdd5e49", func := "tryst/trystlaw02.JulianDays", spec := "julianDays", apart := false, narrowed := true }
def JulianDaysUptoSaid : Prop := julianDaysUptoRow.holds Try.pinned (OpenSpec.upto julianDaysSpec)

/-- 'trystlaw02.CopticDates', WHERE WHAT IT READS IS OF BULK AT MOST 1048576: true; the input reads as it did. -/
def copticDatesUptoRow : OpenClaim := { program := "ytabopabcehcdaaa", sum := "4752643dd09e03372c8162d1ded86fdaa548dae73c2c6de46204aa01abdd5e49", func := "tryst/trystlaw02.CopticDates", spec := "copticDates", apart := false, narrowed := true }
def CopticDatesUptoSaid : Prop := copticDatesUptoRow.holds Try.pinned (OpenSpec.upto copticDatesSpec)

/-- 'trystlaw02.CopticNext', WHERE WHAT IT READS IS OF BULK AT MOST 1048576: true; the input reads as it did. -/
def copticNextUptoRow : OpenClaim := { program := "ytabopabcehcdaaa", sum := "4752643dd09e03372c8162d1ded86fdaa548dae73c2c6de46204aa01abdd5e49", func := "tryst/trystlaw02.CopticNext", spec := "copticNext", apart := false, narrowed := true }
def CopticNextUptoSaid : Prop := copticNextUptoRow.holds Try.pinned (OpenSpec.upto copticNextSpec)

/-- 'trystlaw01.RataBack', WHERE WHAT IT READS IS OF BULK AT MOST 1048576: true; the input reads as it did. -/
def rataBackUptoRow : OpenClaim := { program := "ytabopabcehcdaaa", sum := "4752643dd09e03372c8162d1ded86fdaa548dae73c2c6de46204aa01abdd5e49", func := "tryst/trystlaw01.RataBack", spec := "rataBack", apart := false, narrowed := true }
def RataBackUptoSaid : Prop := rataBackUptoRow.holds Try.pinned (OpenSpec.upto rataBackSpec)

/-- 'trystlaw01.RataNext', WHERE WHAT IT READS IS OF BULK AT MOST 1048576: true; the input reads as it did. -/
def rataNextUptoRow : OpenClaim := { program := "ytabopabcehcdaaa", sum := "4752643dd09e03372c8162d1ded86fdaa548dae73c2c6de46204aa01abdd5e49", func := "tryst/trystlaw01.RataNext", spec := "rataNext", apart := false, narrowed := true }
def RataNextUptoSaid : Prop := rataNextUptoRow.holds Try.pinned (OpenSpec.upto rataNextSpec)

/-- 'trystlaw02.JulianDates', WHERE WHAT IT READS IS OF BULK AT MOST 1048576: true; the input reads as it did. -/
def julianDatesUptoRow : OpenClaim := { program := "ytabopabcehcdaaa", sum := "4752643dd09e03372c8162d1ded86fdaa548dae73c2c6de46204aa01abdd5e49", func := "tryst/trystlaw02.JulianDates", spec := "julianDates", apart := false, narrowed := true }
def JulianDatesUptoSaid : Prop := julianDatesUptoRow.holds Try.pinned (OpenSpec.upto julianDatesSpec)

/-- 'trystlaw02.JulianBack', WHERE WHAT IT READS IS OF BULK AT MOST 1048576: true; the input reads as it did. -/
def julianBackUptoRow : OpenClaim := { program := "ytabopabcehcdaaa", sum := "4752643dd09e03372c8162d1ded86fdaa548dae73c2c6de46204aa01abdd5e49", func := "tryst/trystlaw02.JulianBack", spec := "julianBack", apart := false, narrowed := true }
def JulianBackUptoSaid : Prop := julianBackUptoRow.holds Try.pinned (OpenSpec.upto julianBackSpec)

/-- 'trystlaw02.JulianNext', WHERE WHAT IT READS IS OF BULK AT MOST 1048576: true; the input reads as it did. -/
def julianNextUptoRow : OpenClaim := { program := "ytabopabcehcdaaa", sum := "4752643dd09e03372c8162d1ded86fdaa548dae73c2c6de46204aa01abdd5e49", func := "tryst/trystlaw02.JulianNext", spec := "julianNext", apart := false, narrowed := true }
def JulianNextUptoSaid : Prop := julianNextUptoRow.holds Try.pinned (OpenSpec.upto julianNextSpec)

/-- 'trystlaw02.CopticDays', WHERE WHAT IT READS IS OF BULK AT MOST 1048576: true; the input reads as it did. -/
def copticDaysUptoRow : OpenClaim := { program := "ytabopabcehcdaaa", sum := "4752643dd09e03372c8162d1ded86fdaa548dae73c2c6de46204aa01abdd5e49", func := "tryst/trystlaw02.CopticDays", spec := "copticDays", apart := false, narrowed := true }
def CopticDaysUptoSaid : Prop := copticDaysUptoRow.holds Try.pinned (OpenSpec.upto copticDaysSpec)

/-- 'trystlaw03.IsoDates', WHERE WHAT IT READS IS OF BULK AT MOST 1048576: true; the input reads as it did. -/
def isoDatesUptoRow : OpenClaim := { program := "ytabopabcehcdaaa", sum := "4752643dd09e03372c8162d1ded86fdaa548dae73c2c6de46204aa01abdd5e49", func := "tryst/trystlaw03.IsoDates", spec := "isoDates", apart := false, narrowed := true }
def IsoDatesUptoSaid : Prop := isoDatesUptoRow.holds Try.pinned (OpenSpec.upto isoDatesSpec)

/-- 'trystlaw03.IsoBack', WHERE WHAT IT READS IS OF BULK AT MOST 1048576: true; the input reads as it did. -/
def isoBackUptoRow : OpenClaim := { program := "ytabopabcehcdaaa", sum := "4752643dd09e03372c8162d1ded86fdaa548dae73c2c6de46204aa01abdd5e49", func := "tryst/trystlaw03.IsoBack", spec := "isoBack", apart := false, narrowed := true }
def IsoBackUptoSaid : Prop := isoBackUptoRow.holds Try.pinned (OpenSpec.upto isoBackSpec)

/-- 'trystlaw03.IsoNext', WHERE WHAT IT READS IS OF BULK AT MOST 1048576: true; the input reads as it did. -/
def isoNextUptoRow : OpenClaim := { program := "ytabopabcehcdaaa", sum := "4752643dd09e03372c8162d1ded86fdaa548dae73c2c6de46204aa01abdd5e49", func := "tryst/trystlaw03.IsoNext", spec := "isoNext", apart := false, narrowed := true }
def IsoNextUptoSaid : Prop := isoNextUptoRow.holds Try.pinned (OpenSpec.upto isoNextSpec)

/-- 'trystlaw03.IsoWeeks', WHERE WHAT IT READS IS OF BULK AT MOST 1048576: true; the input reads as it did. -/
def isoWeeksUptoRow : OpenClaim := { program := "ytabopabcehcdaaa", sum := "4752643dd09e03372c8162d1ded86fdaa548dae73c2c6de46204aa01abdd5e49", func := "tryst/trystlaw03.IsoWeeks", spec := "isoWeeks", apart := false, narrowed := true }
def IsoWeeksUptoSaid : Prop := isoWeeksUptoRow.holds Try.pinned (OpenSpec.upto isoWeeksSpec)

/-- 'trystlaw01.RataDates', WHERE WHAT IT READS IS OF BULK AT MOST 1048576: true; the input reads as it did. -/
def rataDatesUptoRow : OpenClaim := { program := "ytabopabcehcdaaa", sum := "4752643dd09e03372c8162d1ded86fdaa548dae73c2c6de46204aa01abdd5e49", func := "tryst/trystlaw01.RataDates", spec := "rataDates", apart := false, narrowed := true }
def RataDatesUptoSaid : Prop := rataDatesUptoRow.holds Try.pinned (OpenSpec.upto rataDatesSpec)

end Rows
end Go.Proofs.Ytabopabcehcdaaa
