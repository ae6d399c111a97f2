-- written by a program of this session (wip/own_print.sh)
import Derived.Test.YthppkdbelmolbaaProg
import Derived.Below
import Derived.Deep.Draws
import Derived.Deep.AppendLies
import Derived.Maps.AppendAt
import Derived.OwnWalk
import Derived.Laws.BytesArg
import Derived.Laws.MakeOwn
import Derived.Laws.OwnMore
import Derived.Deep.OwnRows
import Derived.Tactics
import Derived.Lib.ConvBytes
import Derived.Laws.Slices
import Derived.WalkKit
import Derived.KernelRfl
import Derived.RowKit3
import Derived.Deep.LoopGhost
import Derived.Deep.QuietTactic
import Derived.BigQuiet
import Derived.WideLaws
import Derived.Deep.DeepCutAuto
import Derived.Deep.CutBlock
import Derived.Deep.RegionHeld3
import Derived.Laws.Rows
import Derived.Lib.AppendStr
import Derived.ArgAppend
import Derived.Laws.IdiomCopy
import Derived.OrdersHeld
import Derived.Laws.BitsLemmas
import Derived.RowKit
import Derived.Test.YthppkdbelmolbaaWWords
import Derived.Test.YthppkdbelmolbaaWLast
import Derived.Test.YthppkdbelmolbaaWTab
import Derived.Test.YthppkdbelmolbaaWFour
import Derived.Test.YthppkdbelmolbaaWQPut
import Derived.Test.YthppkdbelmolbaaWApart
import Derived.Test.YthppkdbelmolbaaWArr
import Derived.Test.YthppkdbelmolbaaWZeros
import Derived.Test.YthppkdbelmolbaaWFoot
import Derived.Test.YthppkdbelmolbaaWKept
import Derived.Test.YthppkdbelmolbaaWShare
import Derived.Test.YthppkdbelmolbaaWN
import Derived.Test.YthppkdbelmolbaaWFootNe
import Derived.Test.YthppkdbelmolbaaWAt
import Derived.Test.YthppkdbelmolbaaWEqStruct
import Derived.Test.YthppkdbelmolbaaWRepsOne
import Derived.Test.YthppkdbelmolbaaWInv
import Derived.Test.YthppkdbelmolbaaWInvWords
import Derived.Test.YthppkdbelmolbaaWGuard
import Derived.Test.YthppkdbelmolbaaWNEv
import Derived.Test.YthppkdbelmolbaaWMore
namespace Go.Proofs.Ythppkdbelmolbaa.Q
open Go.RowKit Go.Proofs.YthppkdbelmolbaaW.PrintWords Go.Proofs.YthppkdbelmolbaaW.PrintLast Go.Proofs.YthppkdbelmolbaaW.PrintMore
attribute [local go_sem] max2_int min2_int max_two min_two max_three min_three max_four min_four   -- for this text's walks alone
set_option linter.unusedVariables false
set_option linter.unusedSimpArgs false



def errW : Option Int → Value
  | none => .nilIface
  | some c => .iface 0 (.int .i64 c)
theorem errW_none : errW none = .nilIface := rfl
theorem errW_some (c : Int) : errW (some c) = .iface 0 (.int .i64 c) := rfl

theorem info5 : (Try.prog.info? 5).map (fun i => (i.zero, i.size, i.bytes)) = some (some (.int .u8 0), 1, 1) := by kernel_rfl
-- the values' own types

theorem bs1_ (a : UInt8) : ByteArray.size ⟨#[a]⟩ = 1 := rfl
end Go.Proofs.Ythppkdbelmolbaa.Q
