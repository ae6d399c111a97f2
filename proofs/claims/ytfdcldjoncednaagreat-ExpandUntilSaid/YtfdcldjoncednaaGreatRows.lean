/-
  No cell of these rows narrows 'for every input' (looked for: loops, veiled, ifaces, maps, wideKeys, modest, calm, conditions, laid).
  DERIVED. THE GIVEN ROWS OF THIS SEAT. 3 by the template 'for every input the law returns true; each argument reads behind the call as it read before'; 0 by the template 'total and deterministic' (their statements: YtfdcldjoncednaaGreatTotals.lean).
  GIVEN WITH THE SEED: the statements are not yours to turn. If you find one false, say at which input.
  Laid BY PROGRAM, IN A SANDBOX (cutbox-rows.mjs): the forced cells as the released guide's own fill.sh prints them over the translation 747d395a476c1877… (all of the seat's roots in one cut). By AI agents, Wed Nov 11 2026. No macro, syntax, notation, axiom, sorry.
-/
import Derived.Test.YtfdcldjoncednaaGreatChecked
import GoSem.Claim
import GoSem.ClaimJoined
import GoSem.ClaimMapViews
import Derived.JoinedTies
import Derived.KernelRfl
namespace Go.Proofs.YtfdcldjoncednaaGreat
/- THE CELL 'sum', in the pinned program and in every row, IS THE sha256 OF THE DUMP (.gsa) THAT YtfdcldjoncednaaGreatProg.lean LOADS. Nothing in Lean hashes anything: it is a label: what it is worth is what the hold of that sum in a sandbox is worth. -/
noncomputable def Tryz.pinned : Pinned := { name := "ytfdcldjoncednaagreat", sum := "747d395a476c1877f4e0dcc8b4e47607e016758035eae6e2084cf7dba279130d", checked := Tryz.checked }
namespace Rows
def none {H : Type} : Left H := { results := [], args := [] }

/-- 'trystlaw14.MatchPeriods': WHATEVER THE INPUT: true; the input reads as it did. -/
def matchPeriodsSpec : ChangeSpec := { name := "matchPeriods", fn := fun _ => fun
  | [d1, d2, d3, d4] => { results := [.lit (.bool true)], args := [d1, d2, d3, d4] }
  | _ => none }
def matchPeriodsRow : OpenClaim := { program := "ytfdcldjoncednaagreat", sum := "747d395a476c1877f4e0dcc8b4e47607e016758035eae6e2084cf7dba279130d", func := "tryst/trystlaw14.MatchPeriods", spec := "matchPeriods", inPlace := ["internal/bytealg.IndexByteString"], unfollowed := true, recurses := true, apart := false }
def MatchPeriodsSaid : Prop := matchPeriodsRow.holds Tryz.pinned (OpenSpec.ofChange matchPeriodsSpec)

/-- ITS FALSE NEIGHBOUR: 'it returns false'. Refute it at one input. -/
def matchPeriodsWrong : ChangeSpec := { name := "matchPeriods", fn := fun _ => fun
  | [d1, d2, d3, d4] => { results := [.lit (.bool false)], args := [d1, d2, d3, d4] }
  | _ => none }
def MatchPeriodsWrongFalsely : Prop := matchPeriodsRow.holds Tryz.pinned (OpenSpec.ofChange matchPeriodsWrong)

/-- 'trystlaw15.ExpandUntil': WHATEVER THE INPUT: true; the input reads as it did. -/
def expandUntilSpec : ChangeSpec := { name := "expandUntil", fn := fun _ => fun
  | [d1, d2, d3, d4] => { results := [.lit (.bool true)], args := [d1, d2, d3, d4] }
  | _ => none }
def expandUntilRow : OpenClaim := { program := "ytfdcldjoncednaagreat", sum := "747d395a476c1877f4e0dcc8b4e47607e016758035eae6e2084cf7dba279130d", func := "tryst/trystlaw15.ExpandUntil", spec := "expandUntil", inPlace := ["internal/bytealg.IndexByteString"], unfollowed := true, recurses := true, apart := false }
def ExpandUntilSaid : Prop := expandUntilRow.holds Tryz.pinned (OpenSpec.ofChange expandUntilSpec)

/-- ITS FALSE NEIGHBOUR: 'it returns false'. Refute it at one input. -/
def expandUntilWrong : ChangeSpec := { name := "expandUntil", fn := fun _ => fun
  | [d1, d2, d3, d4] => { results := [.lit (.bool false)], args := [d1, d2, d3, d4] }
  | _ => none }
def ExpandUntilWrongFalsely : Prop := expandUntilRow.holds Tryz.pinned (OpenSpec.ofChange expandUntilWrong)

/-- 'trystlaw15.ExpandTimes': WHATEVER THE INPUT: true; the input reads as it did. -/
def expandTimesSpec : ChangeSpec := { name := "expandTimes", fn := fun _ => fun
  | [d1, d2, d3] => { results := [.lit (.bool true)], args := [d1, d2, d3] }
  | _ => none }
def expandTimesRow : OpenClaim := { program := "ytfdcldjoncednaagreat", sum := "747d395a476c1877f4e0dcc8b4e47607e016758035eae6e2084cf7dba279130d", func := "tryst/trystlaw15.ExpandTimes", spec := "expandTimes", inPlace := ["internal/bytealg.IndexByteString"], unfollowed := true, recurses := true, apart := false }
def ExpandTimesSaid : Prop := expandTimesRow.holds Tryz.pinned (OpenSpec.ofChange expandTimesSpec)

/-- ITS FALSE NEIGHBOUR: 'it returns false'. Refute it at one input. -/
def expandTimesWrong : ChangeSpec := { name := "expandTimes", fn := fun _ => fun
  | [d1, d2, d3] => { results := [.lit (.bool false)], args := [d1, d2, d3] }
  | _ => none }
def ExpandTimesWrongFalsely : Prop := expandTimesRow.holds Tryz.pinned (OpenSpec.ofChange expandTimesWrong)

/- THE SECOND FORM. 'bulk': how many values and letters a reading holds, each counted each time it is reached (what is shared counts as often as it is met; a slice's spare places count too). A statement '..UptoSaid' is the law's where the arguments, and the package variables that the reading takes, are together of bulk at most 1048576: NARROWER than '..Said'. Prove '..Said' where nothing that the law and all that it calls make is longer than what came in: it says more and counts as full. Else prove '..UptoSaid'. A law counts once. -/
mutual
def uptoBulk {H : Type} : DataW H → Nat
  | .lit (.string bytes) => bytes.length + 1
  | .lit _ => 1
  | .nil => 1
  | .ptr d => uptoBulk d + 1
  | .slice elems spare => uptoBulkAll elems + uptoBulkAll spare + 1
  | .agg parts => uptoBulkAll parts + 1
  | .iface _ d => uptoBulk d + 1
  | .map entries => uptoBulkEntries entries + 1
  | .held _ => 1
def uptoBulkAll {H : Type} : List (DataW H) → Nat
  | [] => 0
  | d :: r => uptoBulk d + uptoBulkAll r
def uptoBulkEntries {H : Type} : List (Lit × DataW H) → Nat
  | [] => 0
  | x :: r => uptoBulkEntry x + uptoBulkEntries r
def uptoBulkEntry {H : Type} : Lit × DataW H → Nat
  | (.string bytes, d) => bytes.length + uptoBulk d + 1
  | (_, d) => uptoBulk d + 1
 end
def uptoSmall : (H : Type) → List (DataW H) → Bool := fun _ ds => decide (uptoBulkAll ds ≤ 1048576)
def OpenSpec.upto (s : _root_.Go.ChangeSpec) : _root_.Go.OpenSpec := { _root_.Go.OpenSpec.ofChange s with cond := some uptoSmall }

/-- 'trystlaw14.MatchPeriods', WHERE WHAT IT READS IS OF BULK AT MOST 1048576: true; the input reads as it did. -/
def matchPeriodsUptoRow : OpenClaim := { program := "ytfdcldjoncednaagreat", sum := "747d395a476c1877f4e0dcc8b4e47607e016758035eae6e2084cf7dba279130d", func := "tryst/trystlaw14.MatchPeriods", spec := "matchPeriods", inPlace := ["internal/bytealg.IndexByteString"], unfollowed := true, recurses := true, apart := false, narrowed := true }
def MatchPeriodsUptoSaid : Prop := matchPeriodsUptoRow.holds Tryz.pinned (OpenSpec.upto matchPeriodsSpec)

/-- 'trystlaw15.ExpandUntil', WHERE WHAT IT READS IS OF BULK AT MOST 1048576: true; the input reads as it did. -/
def expandUntilUptoRow : OpenClaim := { program := "ytfdcldjoncednaagreat", sum := "747d395a476c1877f4e0dcc8b4e47607e016758035eae6e2084cf7dba279130d", func := "tryst/trystlaw15.ExpandUntil", spec := "expandUntil", inPlace := ["internal/bytealg.IndexByteString"], unfollowed := true, recurses := true, apart := false, narrowed := true }
def ExpandUntilUptoSaid : Prop := expandUntilUptoRow.holds Tryz.pinned (OpenSpec.upto expandUntilSpec)

/-- 'trystlaw15.ExpandTimes', WHERE WHAT IT READS IS OF BULK AT MOST 1048576: true; the input reads as it did. -/
def expandTimesUptoRow : OpenClaim := { program := "ytfdcldjoncednaagreat", sum := "747d395a476c1877f4e0dcc8b4e47607e016758035eae6e2084cf7dba279130d", func := "tryst/trystlaw15.ExpandTimes", spec := "expandTimes", inPlace := ["internal/bytealg.IndexByteString"], unfollowed := true, recurses := true, apart := false, narrowed := true }
def ExpandTimesUptoSaid : Prop := expandTimesUptoRow.holds Tryz.pinned (OpenSpec.upto expandTimesSpec)

end Rows
end Go.Proofs.YtfdcldjoncednaaGreat
