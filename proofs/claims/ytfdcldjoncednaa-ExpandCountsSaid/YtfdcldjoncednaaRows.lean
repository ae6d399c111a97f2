/-
  No cell of these rows narrows 'for every input' (looked for: loops, veiled, ifaces, maps, wideKeys, modest, calm, conditions, laid).
  DERIVED. THE GIVEN ROWS OF THIS SEAT. 4 by the template 'for every input the law returns true; each argument reads behind the call as it read before'; 0 by the template 'total and deterministic' (their statements: YtfdcldjoncednaaTotals.lean).
  GIVEN WITH THE SEED: the statements are not yours to turn. If you find one false, say at which input.
  Laid BY PROGRAM, IN A SANDBOX (cutbox-rows.mjs): the forced cells as the released guide's own fill.sh prints them over the translation dd5a92fc71581791… (all of the seat's roots in one cut). By AI agents, Wed Nov 11 2026. No macro, syntax, notation, axiom, sorry.
-/
import Derived.Test.YtfdcldjoncednaaChecked
import GoSem.Claim
import GoSem.ClaimJoined
import GoSem.ClaimMapViews
import Derived.JoinedTies
import Derived.KernelRfl
namespace Go.Proofs.Ytfdcldjoncednaa
/- THE CELL 'sum', in the pinned program and in every row, IS THE sha256 OF THE DUMP (.gsa) THAT YtfdcldjoncednaaProg.lean LOADS. Nothing in Lean hashes anything: it is a label: what it is worth is what the hold of that sum in a sandbox is worth. -/
noncomputable def Try.pinned : Pinned := { name := "ytfdcldjoncednaa", sum := "dd5a92fc715817919041176fef39832b9328490bc7d9e1a83f3da108f984e229", checked := Try.checked }
namespace Rows
def none {H : Type} : Left H := { results := [], args := [] }

/-- 'trystlaw14.MatchFits': WHATEVER THE INPUT: true; the input reads as it did. -/
def matchFitsSpec : ChangeSpec := { name := "matchFits", fn := fun _ => fun
  | [d1, d2, d3] => { results := [.lit (.bool true)], args := [d1, d2, d3] }
  | _ => none }
def matchFitsRow : OpenClaim := { program := "ytfdcldjoncednaa", sum := "dd5a92fc715817919041176fef39832b9328490bc7d9e1a83f3da108f984e229", func := "tryst/trystlaw14.MatchFits", spec := "matchFits", inPlace := ["internal/bytealg.IndexByteString"], unfollowed := true, recurses := true, apart := false }
def MatchFitsSaid : Prop := matchFitsRow.holds Try.pinned (OpenSpec.ofChange matchFitsSpec)

/-- ITS FALSE NEIGHBOUR: 'it returns false'. Refute it at one input. -/
def matchFitsWrong : ChangeSpec := { name := "matchFits", fn := fun _ => fun
  | [d1, d2, d3] => { results := [.lit (.bool false)], args := [d1, d2, d3] }
  | _ => none }
def MatchFitsWrongFalsely : Prop := matchFitsRow.holds Try.pinned (OpenSpec.ofChange matchFitsWrong)

/-- 'trystlaw14.MatchMany': WHATEVER THE INPUT: true; the input reads as it did. -/
def matchManySpec : ChangeSpec := { name := "matchMany", fn := fun _ => fun
  | [d1, d2, d3] => { results := [.lit (.bool true)], args := [d1, d2, d3] }
  | _ => none }
def matchManyRow : OpenClaim := { program := "ytfdcldjoncednaa", sum := "dd5a92fc715817919041176fef39832b9328490bc7d9e1a83f3da108f984e229", func := "tryst/trystlaw14.MatchMany", spec := "matchMany", inPlace := ["internal/bytealg.IndexByteString"], unfollowed := true, recurses := true, apart := false }
def MatchManySaid : Prop := matchManyRow.holds Try.pinned (OpenSpec.ofChange matchManySpec)

/-- ITS FALSE NEIGHBOUR: 'it returns false'. Refute it at one input. -/
def matchManyWrong : ChangeSpec := { name := "matchMany", fn := fun _ => fun
  | [d1, d2, d3] => { results := [.lit (.bool false)], args := [d1, d2, d3] }
  | _ => none }
def MatchManyWrongFalsely : Prop := matchManyRow.holds Try.pinned (OpenSpec.ofChange matchManyWrong)

/-- 'trystlaw15.ExpandCounts': WHATEVER THE INPUT: true; the input reads as it did. -/
def expandCountsSpec : ChangeSpec := { name := "expandCounts", fn := fun _ => fun
  | [d1, d2] => { results := [.lit (.bool true)], args := [d1, d2] }
  | _ => none }
def expandCountsRow : OpenClaim := { program := "ytfdcldjoncednaa", sum := "dd5a92fc715817919041176fef39832b9328490bc7d9e1a83f3da108f984e229", func := "tryst/trystlaw15.ExpandCounts", spec := "expandCounts", inPlace := ["internal/bytealg.IndexByteString"], unfollowed := true, recurses := true, apart := false }
def ExpandCountsSaid : Prop := expandCountsRow.holds Try.pinned (OpenSpec.ofChange expandCountsSpec)

/-- ITS FALSE NEIGHBOUR: 'it returns false'. Refute it at one input. -/
def expandCountsWrong : ChangeSpec := { name := "expandCounts", fn := fun _ => fun
  | [d1, d2] => { results := [.lit (.bool false)], args := [d1, d2] }
  | _ => none }
def ExpandCountsWrongFalsely : Prop := expandCountsRow.holds Try.pinned (OpenSpec.ofChange expandCountsWrong)

/-- 'trystlaw15.ExpandMore': WHATEVER THE INPUT: true; the input reads as it did. -/
def expandMoreSpec : ChangeSpec := { name := "expandMore", fn := fun _ => fun
  | [d1, d2, d3, d4, d5, d6] => { results := [.lit (.bool true)], args := [d1, d2, d3, d4, d5, d6] }
  | _ => none }
def expandMoreRow : OpenClaim := { program := "ytfdcldjoncednaa", sum := "dd5a92fc715817919041176fef39832b9328490bc7d9e1a83f3da108f984e229", func := "tryst/trystlaw15.ExpandMore", spec := "expandMore", inPlace := ["internal/bytealg.IndexByteString"], unfollowed := true, recurses := true, apart := false }
def ExpandMoreSaid : Prop := expandMoreRow.holds Try.pinned (OpenSpec.ofChange expandMoreSpec)

/-- ITS FALSE NEIGHBOUR: 'it returns false'. Refute it at one input. -/
def expandMoreWrong : ChangeSpec := { name := "expandMore", fn := fun _ => fun
  | [d1, d2, d3, d4, d5, d6] => { results := [.lit (.bool false)], args := [d1, d2, d3, d4, d5, d6] }
  | _ => none }
def ExpandMoreWrongFalsely : Prop := expandMoreRow.holds Try.pinned (OpenSpec.ofChange expandMoreWrong)

/- THE SECOND FORM. 'bulk': how many values and letters a reading holds, each counted each time it is reached (what is shared counts as often as it is met; a slice's spare places count too). A statement '..UptoSaid' is the law's where the arguments, and the package variables that the reading takes, are together of bulk at most 1048576: NARROWER than '..Said'. Prove '..Said' where nothing that the law and all that it calls make is longer than what came in: it says more and counts as full. Else prove '..UptoSaid'. A law counts once. -/
mutual
def uptoBulk {H : Type} : DataW H → Nat
  | .lit (.string bytes) => bytes.length + 1
  | .lit _ => 1
  | .nil => 1
  | .ptr d => uptoBulk d + 1
  | .slice elems spare => uptoBulkAll elems + uptoBulkAll spare + 1
  | .agg parts => uptoBulkAll parts + 1
  | .iface _ d => uptoBulk d + 1
  | .map entries => uptoBulkEntries entries + 1
  | .held _ => 1
def uptoBulkAll {H : Type} : List (DataW H) → Nat
  | [] => 0
  | d :: r => uptoBulk d + uptoBulkAll r
def uptoBulkEntries {H : Type} : List (Lit × DataW H) → Nat
  | [] => 0
  | x :: r => uptoBulkEntry x + uptoBulkEntries r
def uptoBulkEntry {H : Type} : Lit × DataW H → Nat
  | (.string bytes, d) => bytes.length + uptoBulk d + 1
  | (_, d) => uptoBulk d + 1
 end
def uptoSmall : (H : Type) → List (DataW H) → Bool := fun _ ds => decide (uptoBulkAll ds ≤ 1048576)
def OpenSpec.upto (s : _root_.Go.ChangeSpec) : _root_.Go.OpenSpec := { _root_.Go.OpenSpec.ofChange s with cond := some uptoSmall }

/-- 'trystlaw14.MatchFits', WHERE WHAT IT READS IS OF BULK AT MOST 1048576: true; the input reads as it did. -/
def matchFitsUptoRow : OpenClaim := { program := "ytfdcldjoncednaa", sum := "dd5a92fc715817919041176fef39832b9328490bc7d9e1a83f3da108f984e229", func := "tryst/trystlaw14.MatchFits", spec := "matchFits", inPlace := ["internal/bytealg.IndexByteString"], unfollowed := true, recurses := true, apart := false, narrowed := true }
def MatchFitsUptoSaid : Prop := matchFitsUptoRow.holds Try.pinned (OpenSpec.upto matchFitsSpec)

/-- 'trystlaw14.MatchMany', WHERE WHAT IT READS IS OF BULK AT MOST 1048576: true; the input reads as it did. -/
def matchManyUptoRow : OpenClaim := { program := "ytfdcldjoncednaa", sum := "dd5a92fc715817919041176fef39832b9328490bc7d9e1a83f3da108f984e229", func := "tryst/trystlaw14.MatchMany", spec := "matchMany", inPlace := ["internal/bytealg.IndexByteString"], unfollowed := true, recurses := true, apart := false, narrowed := true }
def MatchManyUptoSaid : Prop := matchManyUptoRow.holds Try.pinned (OpenSpec.upto matchManySpec)

/-- 'trystlaw15.ExpandCounts', WHERE WHAT IT READS IS OF BULK AT MOST 1048576: true; the input reads as it did. -/
def expandCountsUptoRow : OpenClaim := { program := "ytfdcldjoncednaa", sum := "dd5a92fc715817919041176fef39832b9328490bc7d9e1a83f3da108f984e229", func := "tryst/trystlaw15.ExpandCounts", spec := "expandCounts", inPlace := ["internal/bytealg.IndexByteString"], unfollowed := true, recurses := true, apart := false, narrowed := true }
def ExpandCountsUptoSaid : Prop := expandCountsUptoRow.holds Try.pinned (OpenSpec.upto expandCountsSpec)

/-- 'trystlaw15.ExpandMore', WHERE WHAT IT READS IS OF BULK AT MOST 1048576: true; the input reads as it did. -/
def expandMoreUptoRow : OpenClaim := { program := "ytfdcldjoncednaa", sum := "dd5a92fc715817919041176fef39832b9328490bc7d9e1a83f3da108f984e229", func := "tryst/trystlaw15.ExpandMore", spec := "expandMore", inPlace := ["internal/bytealg.IndexByteString"], unfollowed := true, recurses := true, apart := false, narrowed := true }
def ExpandMoreUptoSaid : Prop := expandMoreUptoRow.holds Try.pinned (OpenSpec.upto expandMoreSpec)

end Rows
end Go.Proofs.Ytfdcldjoncednaa
