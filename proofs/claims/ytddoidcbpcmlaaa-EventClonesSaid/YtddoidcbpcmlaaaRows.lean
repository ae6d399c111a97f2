/-
  No cell of these rows narrows 'for every input' (looked for: loops, veiled, ifaces, maps, wideKeys, modest, calm, conditions, laid).
  DERIVED. THE GIVEN ROWS OF THIS SEAT. 6 by the template 'for every input the law returns true; each argument reads behind the call as it read before'; 0 by the template 'total and deterministic' (their statements: YtddoidcbpcmlaaaTotals.lean).
  GIVEN WITH THE SEED: the statements are not yours to turn. If you find one false, say at which input.
  Laid BY PROGRAM, IN A SANDBOX (cutbox-rows.mjs): the forced cells as the released guide's own fill.sh prints them over the translation 61c7960fb1653077… (all of the seat's roots in one cut). By AI agents, Wed Nov 11 2026. No macro, syntax, notation, axiom, sorry.
-/
import Derived.Test.YtddoidcbpcmlaaaChecked
import GoSem.Claim
import GoSem.ClaimJoined
import GoSem.ClaimMapViews
import Derived.JoinedTies
import Derived.KernelRfl
namespace Go.Proofs.Ytddoidcbpcmlaaa
/- THE CELL 'sum', in the pinned program and in every row, IS THE sha256 OF THE DUMP (.gsa) THAT YtddoidcbpcmlaaaProg.lean LOADS. Nothing in Lean hashes anything: it is a label: what it is worth is what the hold of that sum in a sandbox is worth. -/
noncomputable def Try.pinned : Pinned := { name := "ytddoidcbpcmlaaa", sum := "61c7960fb1653077e59977157b8d169b61d94905faecd0d3045d12385f7ff4b4", checked := Try.checked }
namespace Rows
def none {H : Type} : Left H := { results := [], args := [] }

/-- 'trystlaw18.EventNewer': WHATEVER THE INPUT: true; the input reads as it did. -/
def eventNewerSpec : ChangeSpec := { name := "eventNewer", fn := fun _ => fun
  | [d1, d2, d3] => { results := [.lit (.bool true)], args := [d1, d2, d3] }
  | _ => none }
def eventNewerRow : OpenClaim := { program := "ytddoidcbpcmlaaa", sum := "61c7960fb1653077e59977157b8d169b61d94905faecd0d3045d12385f7ff4b4", func := "tryst/trystlaw18.EventNewer", spec := "eventNewer", inPlace := ["internal/bytealg.IndexByteString", "internal/bytealg.IndexString"], named := ["internal/bytealg.MaxLen"], apart := false }
def EventNewerSaid : Prop := eventNewerRow.holds Try.pinned (OpenSpec.ofChange eventNewerSpec)

/-- ITS FALSE NEIGHBOUR: 'it returns false'. Refute it at one input. -/
def eventNewerWrong : ChangeSpec := { name := "eventNewer", fn := fun _ => fun
  | [d1, d2, d3] => { results := [.lit (.bool false)], args := [d1, d2, d3] }
  | _ => none }
def EventNewerWrongFalsely : Prop := eventNewerRow.holds Try.pinned (OpenSpec.ofChange eventNewerWrong)

/-- 'trystlaw18.EventPeople': WHATEVER THE INPUT: true; the input reads as it did. -/
def eventPeopleSpec : ChangeSpec := { name := "eventPeople", fn := fun _ => fun
  | [d1, d2] => { results := [.lit (.bool true)], args := [d1, d2] }
  | _ => none }
def eventPeopleRow : OpenClaim := { program := "ytddoidcbpcmlaaa", sum := "61c7960fb1653077e59977157b8d169b61d94905faecd0d3045d12385f7ff4b4", func := "tryst/trystlaw18.EventPeople", spec := "eventPeople", inPlace := ["internal/bytealg.IndexByteString", "internal/bytealg.IndexString"], named := ["internal/bytealg.MaxLen"], apart := false }
def EventPeopleSaid : Prop := eventPeopleRow.holds Try.pinned (OpenSpec.ofChange eventPeopleSpec)

/-- ITS FALSE NEIGHBOUR: 'it returns false'. Refute it at one input. -/
def eventPeopleWrong : ChangeSpec := { name := "eventPeople", fn := fun _ => fun
  | [d1, d2] => { results := [.lit (.bool false)], args := [d1, d2] }
  | _ => none }
def EventPeopleWrongFalsely : Prop := eventPeopleRow.holds Try.pinned (OpenSpec.ofChange eventPeopleWrong)

/-- 'trystlaw18.EventClones': WHATEVER THE INPUT: true; the input reads as it did. -/
def eventClonesSpec : ChangeSpec := { name := "eventClones", fn := fun _ => fun
  | [d1, d2] => { results := [.lit (.bool true)], args := [d1, d2] }
  | _ => none }
def eventClonesRow : OpenClaim := { program := "ytddoidcbpcmlaaa", sum := "61c7960fb1653077e59977157b8d169b61d94905faecd0d3045d12385f7ff4b4", func := "tryst/trystlaw18.EventClones", spec := "eventClones", inPlace := ["internal/bytealg.IndexByteString", "internal/bytealg.IndexString"], unfollowed := true, recurses := true, named := ["internal/bytealg.MaxLen"], apart := false }
def EventClonesSaid : Prop := eventClonesRow.holds Try.pinned (OpenSpec.ofChange eventClonesSpec)

/-- ITS FALSE NEIGHBOUR: 'it returns false'. Refute it at one input. -/
def eventClonesWrong : ChangeSpec := { name := "eventClones", fn := fun _ => fun
  | [d1, d2] => { results := [.lit (.bool false)], args := [d1, d2] }
  | _ => none }
def EventClonesWrongFalsely : Prop := eventClonesRow.holds Try.pinned (OpenSpec.ofChange eventClonesWrong)

/-- 'trystlaw28.AgendaNeat': WHATEVER THE INPUT: true; the input reads as it did. -/
def agendaNeatSpec : ChangeSpec := { name := "agendaNeat", fn := fun _ => fun
  | [d] => { results := [.lit (.bool true)], args := [d] }
  | _ => none }
def agendaNeatRow : OpenClaim := { program := "ytddoidcbpcmlaaa", sum := "61c7960fb1653077e59977157b8d169b61d94905faecd0d3045d12385f7ff4b4", func := "tryst/trystlaw28.AgendaNeat", spec := "agendaNeat", unfollowed := true, recurses := true, apart := false }
def AgendaNeatSaid : Prop := agendaNeatRow.holds Try.pinned (OpenSpec.ofChange agendaNeatSpec)

/-- ITS FALSE NEIGHBOUR: 'it returns false'. Refute it at one input. -/
def agendaNeatWrong : ChangeSpec := { name := "agendaNeat", fn := fun _ => fun
  | [d] => { results := [.lit (.bool false)], args := [d] }
  | _ => none }
def AgendaNeatWrongFalsely : Prop := agendaNeatRow.holds Try.pinned (OpenSpec.ofChange agendaNeatWrong)

/-- 'trystlaw28.AgendaBusy': WHATEVER THE INPUT: true; the input reads as it did. -/
def agendaBusySpec : ChangeSpec := { name := "agendaBusy", fn := fun _ => fun
  | [d] => { results := [.lit (.bool true)], args := [d] }
  | _ => none }
def agendaBusyRow : OpenClaim := { program := "ytddoidcbpcmlaaa", sum := "61c7960fb1653077e59977157b8d169b61d94905faecd0d3045d12385f7ff4b4", func := "tryst/trystlaw28.AgendaBusy", spec := "agendaBusy", unfollowed := true, recurses := true, apart := false }
def AgendaBusySaid : Prop := agendaBusyRow.holds Try.pinned (OpenSpec.ofChange agendaBusySpec)

/-- ITS FALSE NEIGHBOUR: 'it returns false'. Refute it at one input. -/
def agendaBusyWrong : ChangeSpec := { name := "agendaBusy", fn := fun _ => fun
  | [d] => { results := [.lit (.bool false)], args := [d] }
  | _ => none }
def AgendaBusyWrongFalsely : Prop := agendaBusyRow.holds Try.pinned (OpenSpec.ofChange agendaBusyWrong)

/-- 'trystlaw28.AgendaLong': WHATEVER THE INPUT: true; the input reads as it did. -/
def agendaLongSpec : ChangeSpec := { name := "agendaLong", fn := fun _ => fun
  | [d1, d2, d3] => { results := [.lit (.bool true)], args := [d1, d2, d3] }
  | _ => none }
def agendaLongRow : OpenClaim := { program := "ytddoidcbpcmlaaa", sum := "61c7960fb1653077e59977157b8d169b61d94905faecd0d3045d12385f7ff4b4", func := "tryst/trystlaw28.AgendaLong", spec := "agendaLong", unfollowed := true, recurses := true, apart := false }
def AgendaLongSaid : Prop := agendaLongRow.holds Try.pinned (OpenSpec.ofChange agendaLongSpec)

/-- ITS FALSE NEIGHBOUR: 'it returns false'. Refute it at one input. -/
def agendaLongWrong : ChangeSpec := { name := "agendaLong", fn := fun _ => fun
  | [d1, d2, d3] => { results := [.lit (.bool false)], args := [d1, d2, d3] }
  | _ => none }
def AgendaLongWrongFalsely : Prop := agendaLongRow.holds Try.pinned (OpenSpec.ofChange agendaLongWrong)

/- THE SECOND FORM. 'bulk': how many values and letters a reading holds, each counted each time it is reached (what is shared counts as often as it is met; a slice's spare places count too). A statement '..UptoSaid' is the law's where the arguments, and the package variables that the reading takes, are together of bulk at most 1048576: NARROWER than '..Said'. Prove '..Said' where nothing that the law and all that it calls make is longer than what came in: it says more and counts as full. Else prove '..UptoSaid'. A law counts once. -/
mutual
def uptoBulk {H : Type} : DataW H → Nat
  | .lit (.string bytes) => bytes.length + 1
  | .lit _ => 1
  | .nil => 1
  | .ptr d => uptoBulk d + 1
  | .slice elems spare => uptoBulkAll elems + uptoBulkAll spare + 1
  | .agg parts => uptoBulkAll parts + 1
  | .iface _ d => uptoBulk d + 1
  | .map entries => uptoBulkEntries entries + 1
  | .held _ => 1
def uptoBulkAll {H : Type} : List (DataW H) → Nat
  | [] => 0
  | d :: r => uptoBulk d + uptoBulkAll r
def uptoBulkEntries {H : Type} : List (Lit × DataW H) → Nat
  | [] => 0
  | x :: r => uptoBulkEntry x + uptoBulkEntries r
def uptoBulkEntry {H : Type} : Lit × DataW H → Nat
  | (.string bytes, d) => bytes.length + uptoBulk d + 1
  | (_, d) => uptoBulk d + 1
 end
def uptoSmall : (H : Type) → List (DataW H) → Bool := fun _ ds => decide (uptoBulkAll ds ≤ 1048576)
def OpenSpec.upto (s : _root_.Go.ChangeSpec) : _root_.Go.OpenSpec := { _root_.Go.OpenSpec.ofChange s with cond := some uptoSmall }

/-- 'trystlaw18.EventNewer', WHERE WHAT IT READS IS OF BULK AT MOST 1048576: true; the input reads as it did. -/
def eventNewerUptoRow : OpenClaim := { program := "ytddoidcbpcmlaaa", sum := "61c7960fb1653077e59977157b8d169b61d94905faecd0d3045d12385f7ff4b4", func := "tryst/trystlaw18.EventNewer", spec := "eventNewer", inPlace := ["internal/bytealg.IndexByteString", "internal/bytealg.IndexString"], named := ["internal/bytealg.MaxLen"], apart := false, narrowed := true }
def EventNewerUptoSaid : Prop := eventNewerUptoRow.holds Try.pinned (OpenSpec.upto eventNewerSpec)

/-- 'trystlaw18.EventPeople', WHERE WHAT IT READS IS OF BULK AT MOST 1048576: true; the input reads as it did. -/
def eventPeopleUptoRow : OpenClaim := { program := "ytddoidcbpcmlaaa", sum := "61c7960fb1653077e59977157b8d169b61d94905faecd0d3045d12385f7ff4b4", func := "tryst/trystlaw18.EventPeople", spec := "eventPeople", inPlace := ["internal/bytealg.IndexByteString", "internal/bytealg.IndexString"], named := ["internal/bytealg.MaxLen"], apart := false, narrowed := true }
def EventPeopleUptoSaid : Prop := eventPeopleUptoRow.holds Try.pinned (OpenSpec.upto eventPeopleSpec)

/-- 'trystlaw18.EventClones', WHERE WHAT IT READS IS OF BULK AT MOST 1048576: true; the input reads as it did. -/
def eventClonesUptoRow : OpenClaim := { program := "ytddoidcbpcmlaaa", sum := "61c7960fb1653077e59977157b8d169b61d94905faecd0d3045d12385f7ff4b4", func := "tryst/trystlaw18.EventClones", spec := "eventClones", inPlace := ["internal/bytealg.IndexByteString", "internal/bytealg.IndexString"], unfollowed := true, recurses := true, named := ["internal/bytealg.MaxLen"], apart := false, narrowed := true }
def EventClonesUptoSaid : Prop := eventClonesUptoRow.holds Try.pinned (OpenSpec.upto eventClonesSpec)

/-- 'trystlaw28.AgendaNeat', WHERE WHAT IT READS IS OF BULK AT MOST 1048576: true; the input reads as it did. -/
def agendaNeatUptoRow : OpenClaim := { program := "ytddoidcbpcmlaaa", sum := "61c7960fb1653077e59977157b8d169b61d94905faecd0d3045d12385f7ff4b4", func := "tryst/trystlaw28.AgendaNeat", spec := "agendaNeat", unfollowed := true, recurses := true, apart := false, narrowed := true }
def AgendaNeatUptoSaid : Prop := agendaNeatUptoRow.holds Try.pinned (OpenSpec.upto agendaNeatSpec)

/-- 'trystlaw28.AgendaBusy', WHERE WHAT IT READS IS OF BULK AT MOST 1048576: true; the input reads as it did. -/
def agendaBusyUptoRow : OpenClaim := { program := "ytddoidcbpcmlaaa", sum := "61c7960fb1653077e59977157b8d169b61d94905faecd0d3045d12385f7ff4b4", func := "tryst/trystlaw28.AgendaBusy", spec := "agendaBusy", unfollowed := true, recurses := true, apart := false, narrowed := true }
def AgendaBusyUptoSaid : Prop := agendaBusyUptoRow.holds Try.pinned (OpenSpec.upto agendaBusySpec)

/-- 'trystlaw28.AgendaLong', WHERE WHAT IT READS IS OF BULK AT MOST 1048576: true; the input reads as it did. -/
def agendaLongUptoRow : OpenClaim := { program := "ytddoidcbpcmlaaa", sum := "61c7960fb1653077e59977157b8d169b61d94905faecd0d3045d12385f7ff4b4", func := "tryst/trystlaw28.AgendaLong", spec := "agendaLong", unfollowed := true, recurses := true, apart := false, narrowed := true }
def AgendaLongUptoSaid : Prop := agendaLongUptoRow.holds Try.pinned (OpenSpec.upto agendaLongSpec)

end Rows
end Go.Proofs.Ytddoidcbpcmlaaa
