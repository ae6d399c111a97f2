/-
  No cell of these rows narrows 'for every input' (looked for: loops, veiled, ifaces, maps, wideKeys, modest, calm, conditions, laid).
  DERIVED. THE GIVEN ROWS OF THIS SEAT. 5 by the template 'for every input the law returns true; each argument reads behind the call as it read before'; 0 by the template 'total and deterministic' (their statements: YthppkdbelmolbaaTotals.lean).
  GIVEN WITH THE SEED: the statements are not yours to turn. If you find one false, say at which input.
  Laid BY PROGRAM, IN A SANDBOX (cutbox-rows.mjs): the forced cells as the released guide's own fill.sh prints them over the translation 8c195788339ad1ab… (all of the seat's roots in one cut). By AI agents, Wed Nov 11 2026. No macro, syntax, notation, axiom, sorry.
-/
import Derived.Test.YthppkdbelmolbaaChecked
import GoSem.Claim
import GoSem.ClaimJoined
import GoSem.ClaimMapViews
import Derived.JoinedTies
import Derived.KernelRfl
namespace Go.Proofs.Ythppkdbelmolbaa
/- THE CELL 'sum', in the pinned program and in every row, IS THE sha256 OF THE DUMP (.gsa) THAT YthppkdbelmolbaaProg.lean LOADS. Nothing in Lean hashes anything: it is a label: what it is worth is what the hold of that sum in a sandbox is worth. -/
noncomputable def Try.pinned : Pinned := { name := "ythppkdbelmolbaa", sum := "8c195788339ad1ab53688946a54de225176e8c3735477960690643d5815430ea", checked := Try.checked }
namespace Rows
def none {H : Type} : Left H := { results := [], args := [] }

/-- 'trystlaw07.ClockAdds': WHATEVER THE INPUT: true; the input reads as it did. -/
def clockAddsSpec : ChangeSpec := { name := "clockAdds", fn := fun _ => fun
  | [d1, d2] => { results := [.lit (.bool true)], args := [d1, d2] }
  | _ => none }
def clockAddsRow : OpenClaim := { program := "ythppkdbelmolbaa", sum := "8c195788339ad1ab53688946a54de225176e8c3735477960690643d5815430ea", func := "tryst/trystlaw07.ClockAdds", spec := "clockAdds", inPlace := ["internal/abi.NoEscape"], apart := false }
def ClockAddsSaid : Prop := clockAddsRow.holds Try.pinned (OpenSpec.ofChange clockAddsSpec)

/-- ITS FALSE NEIGHBOUR: 'it returns false'. Refute it at one input. -/
def clockAddsWrong : ChangeSpec := { name := "clockAdds", fn := fun _ => fun
  | [d1, d2] => { results := [.lit (.bool false)], args := [d1, d2] }
  | _ => none }
def ClockAddsWrongFalsely : Prop := clockAddsRow.holds Try.pinned (OpenSpec.ofChange clockAddsWrong)

/-- 'trystlaw07.ClockParts': WHATEVER THE INPUT: true; the input reads as it did. -/
def clockPartsSpec : ChangeSpec := { name := "clockParts", fn := fun _ => fun
  | [d] => { results := [.lit (.bool true)], args := [d] }
  | _ => none }
def clockPartsRow : OpenClaim := { program := "ythppkdbelmolbaa", sum := "8c195788339ad1ab53688946a54de225176e8c3735477960690643d5815430ea", func := "tryst/trystlaw07.ClockParts", spec := "clockParts", inPlace := ["internal/abi.NoEscape"], apart := false }
def ClockPartsSaid : Prop := clockPartsRow.holds Try.pinned (OpenSpec.ofChange clockPartsSpec)

/-- ITS FALSE NEIGHBOUR: 'it returns false'. Refute it at one input. -/
def clockPartsWrong : ChangeSpec := { name := "clockParts", fn := fun _ => fun
  | [d] => { results := [.lit (.bool false)], args := [d] }
  | _ => none }
def ClockPartsWrongFalsely : Prop := clockPartsRow.holds Try.pinned (OpenSpec.ofChange clockPartsWrong)

/-- 'trystlaw07.ClockOf': WHATEVER THE INPUT: true; the input reads as it did. -/
def clockOfSpec : ChangeSpec := { name := "clockOf", fn := fun _ => fun
  | [d1, d2, d3] => { results := [.lit (.bool true)], args := [d1, d2, d3] }
  | _ => none }
def clockOfRow : OpenClaim := { program := "ythppkdbelmolbaa", sum := "8c195788339ad1ab53688946a54de225176e8c3735477960690643d5815430ea", func := "tryst/trystlaw07.ClockOf", spec := "clockOf", inPlace := ["internal/abi.NoEscape"], apart := false }
def ClockOfSaid : Prop := clockOfRow.holds Try.pinned (OpenSpec.ofChange clockOfSpec)

/-- ITS FALSE NEIGHBOUR: 'it returns false'. Refute it at one input. -/
def clockOfWrong : ChangeSpec := { name := "clockOf", fn := fun _ => fun
  | [d1, d2, d3] => { results := [.lit (.bool false)], args := [d1, d2, d3] }
  | _ => none }
def ClockOfWrongFalsely : Prop := clockOfRow.holds Try.pinned (OpenSpec.ofChange clockOfWrong)

/-- 'trystlaw07.ClockTexts': WHATEVER THE INPUT: true; the input reads as it did. -/
def clockTextsSpec : ChangeSpec := { name := "clockTexts", fn := fun _ => fun
  | [d] => { results := [.lit (.bool true)], args := [d] }
  | _ => none }
def clockTextsRow : OpenClaim := { program := "ythppkdbelmolbaa", sum := "8c195788339ad1ab53688946a54de225176e8c3735477960690643d5815430ea", func := "tryst/trystlaw07.ClockTexts", spec := "clockTexts", inPlace := ["internal/abi.NoEscape"], recurses := true, apart := false }
def ClockTextsSaid : Prop := clockTextsRow.holds Try.pinned (OpenSpec.ofChange clockTextsSpec)

/-- ITS FALSE NEIGHBOUR: 'it returns false'. Refute it at one input. -/
def clockTextsWrong : ChangeSpec := { name := "clockTexts", fn := fun _ => fun
  | [d] => { results := [.lit (.bool false)], args := [d] }
  | _ => none }
def ClockTextsWrongFalsely : Prop := clockTextsRow.holds Try.pinned (OpenSpec.ofChange clockTextsWrong)

/-- 'trystlaw07.ClockParses': WHATEVER THE INPUT: true; the input reads as it did. -/
def clockParsesSpec : ChangeSpec := { name := "clockParses", fn := fun _ => fun
  | [d] => { results := [.lit (.bool true)], args := [d] }
  | _ => none }
def clockParsesRow : OpenClaim := { program := "ythppkdbelmolbaa", sum := "8c195788339ad1ab53688946a54de225176e8c3735477960690643d5815430ea", func := "tryst/trystlaw07.ClockParses", spec := "clockParses", inPlace := ["internal/abi.NoEscape"], recurses := true, apart := false }
def ClockParsesSaid : Prop := clockParsesRow.holds Try.pinned (OpenSpec.ofChange clockParsesSpec)

/-- ITS FALSE NEIGHBOUR: 'it returns false'. Refute it at one input. -/
def clockParsesWrong : ChangeSpec := { name := "clockParses", fn := fun _ => fun
  | [d] => { results := [.lit (.bool false)], args := [d] }
  | _ => none }
def ClockParsesWrongFalsely : Prop := clockParsesRow.holds Try.pinned (OpenSpec.ofChange clockParsesWrong)

/- THE SECOND FORM. 'bulk': how many values and letters a reading holds, each counted each time it is reached (what is shared counts as often as it is met; a slice's spare places count too). A statement '..UptoSaid' is the law's where the arguments, and the package variables that the reading takes, are together of bulk at most 1048576: NARROWER than '..Said'. Prove '..Said' where nothing that the law and all that it calls make is longer than what came in: it says more and counts as full. Else prove '..UptoSaid'. A law counts once. -/
mutual
def uptoBulk {H : Type} : DataW H → Nat
  | .lit (.string bytes) => bytes.length + 1
  | .lit _ => 1
  | .nil => 1
  | .ptr d => uptoBulk d + 1
  | .slice elems spare => uptoBulkAll elems + uptoBulkAll spare + 1
  | .agg parts => uptoBulkAll parts + 1
  | .iface _ d => uptoBulk d + 1
  | .map entries => uptoBulkEntries entries + 1
  | .held _ => 1
def uptoBulkAll {H : Type} : List (DataW H) → Nat
  | [] => 0
  | d :: r => uptoBulk d + uptoBulkAll r
def uptoBulkEntries {H : Type} : List (Lit × DataW H) → Nat
  | [] => 0
  | x :: r => uptoBulkEntry x + uptoBulkEntries r
def uptoBulkEntry {H : Type} : Lit × DataW H → Nat
  | (.string bytes, d) => bytes.length + uptoBulk d + 1
  | (_, d) => uptoBulk d + 1
 end
def uptoSmall : (H : Type) → List (DataW H) → Bool := fun _ ds => decide (uptoBulkAll ds ≤ 1048576)
def OpenSpec.upto (s : _root_.Go.ChangeSpec) : _root_.Go.OpenSpec := { _root_.Go.OpenSpec.ofChange s with cond := some uptoSmall }

/-- 'trystlaw07.ClockAdds', WHERE WHAT IT READS IS OF BULK AT MOST 1048576: true; the input reads as it did. -/
def clockAddsUptoRow : OpenClaim := { program := "ythppkdbelmolbaa", sum := "8c195788339ad1ab53688946a54de225176e8c3735477960690643d5815430ea", func := "tryst/trystlaw07.ClockAdds", spec := "clockAdds", inPlace := ["internal/abi.NoEscape"], apart := false, narrowed := true }
def ClockAddsUptoSaid : Prop := clockAddsUptoRow.holds Try.pinned (OpenSpec.upto clockAddsSpec)

/-- 'trystlaw07.ClockParts', WHERE WHAT IT READS IS OF BULK AT MOST 1048576: true; the input reads as it did. -/
def clockPartsUptoRow : OpenClaim := { program := "ythppkdbelmolbaa", sum := "8c195788339ad1ab53688946a54de225176e8c3735477960690643d5815430ea", func := "tryst/trystlaw07.ClockParts", spec := "clockParts", inPlace := ["internal/abi.NoEscape"], apart := false, narrowed := true }
def ClockPartsUptoSaid : Prop := clockPartsUptoRow.holds Try.pinned (OpenSpec.upto clockPartsSpec)

/-- 'trystlaw07.ClockOf', WHERE WHAT IT READS IS OF BULK AT MOST 1048576: true; the input reads as it did. -/
def clockOfUptoRow : OpenClaim := { program := "ythppkdbelmolbaa", sum := "8c195788339ad1ab53688946a54de225176e8c3735477960690643d5815430ea", func := "tryst/trystlaw07.ClockOf", spec := "clockOf", inPlace := ["internal/abi.NoEscape"], apart := false, narrowed := true }
def ClockOfUptoSaid : Prop := clockOfUptoRow.holds Try.pinned (OpenSpec.upto clockOfSpec)

/-- 'trystlaw07.ClockTexts', WHERE WHAT IT READS IS OF BULK AT MOST 1048576: true; the input reads as it did. -/
def clockTextsUptoRow : OpenClaim := { program := "ythppkdbelmolbaa", sum := "8c195788339ad1ab53688946a54de225176e8c3735477960690643d5815430ea", func := "tryst/trystlaw07.ClockTexts", spec := "clockTexts", inPlace := ["internal/abi.NoEscape"], recurses := true, apart := false, narrowed := true }
def ClockTextsUptoSaid : Prop := clockTextsUptoRow.holds Try.pinned (OpenSpec.upto clockTextsSpec)

/-- 'trystlaw07.ClockParses', WHERE WHAT IT READS IS OF BULK AT MOST 1048576: true; the input reads as it did. -/
def clockParsesUptoRow : OpenClaim := { program := "ythppkdbelmolbaa", sum := "8c195788339ad1ab53688946a54de225176e8c3735477960690643d5815430ea", func := "tryst/trystlaw07.ClockParses", spec := "clockParses", inPlace := ["internal/abi.NoEscape"], recurses := true, apart := false, narrowed := true }
def ClockParsesUptoSaid : Prop := clockParsesUptoRow.holds Try.pinned (OpenSpec.upto clockParsesSpec)

end Rows
end Go.Proofs.Ythppkdbelmolbaa
