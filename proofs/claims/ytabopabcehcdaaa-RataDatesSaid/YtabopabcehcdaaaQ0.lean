-- written by a program of this session (wip/own_print.sh)
import Derived.Test.YtabopabcehcdaaaProg
import Derived.Below
import Derived.Deep.Draws
import Derived.Deep.AppendLies
import Derived.Maps.AppendAt
import Derived.OwnWalk
import Derived.Laws.BytesArg
import Derived.Laws.MakeOwn
import Derived.Laws.OwnMore
import Derived.Deep.OwnRows
import Derived.Tactics
import Derived.Lib.ConvBytes
import Derived.Laws.Slices
import Derived.WalkKit
import Derived.KernelRfl
import Derived.RowKit3
import Derived.Deep.LoopGhost
import Derived.Deep.QuietTactic
import Derived.BigQuiet
import Derived.WideLaws
import Derived.Deep.DeepCutAuto
import Derived.Deep.CutBlock
import Derived.Deep.RegionHeld3
import Derived.Laws.Rows
import Derived.Lib.AppendStr
import Derived.ArgAppend
import Derived.Laws.IdiomCopy
import Derived.OrdersHeld
import Derived.Laws.BitsLemmas
import Derived.RowKit
import Derived.Test.YtabopabcehcdaaaWWords
import Derived.Test.YtabopabcehcdaaaWLast
import Derived.Test.YtabopabcehcdaaaWTab
import Derived.Test.YtabopabcehcdaaaWFour
import Derived.Test.YtabopabcehcdaaaWQPut
import Derived.Test.YtabopabcehcdaaaWApart
import Derived.Test.YtabopabcehcdaaaWArr
import Derived.Test.YtabopabcehcdaaaWZeros
import Derived.Test.YtabopabcehcdaaaWFoot
import Derived.Test.YtabopabcehcdaaaWKept
import Derived.Test.YtabopabcehcdaaaWShare
import Derived.Test.YtabopabcehcdaaaWN
import Derived.Test.YtabopabcehcdaaaWFootNe
import Derived.Test.YtabopabcehcdaaaWAt
import Derived.Test.YtabopabcehcdaaaWEqStruct
import Derived.Test.YtabopabcehcdaaaWRepsOne
import Derived.Test.YtabopabcehcdaaaWInv
import Derived.Test.YtabopabcehcdaaaWInvWords
import Derived.Test.YtabopabcehcdaaaWGuard
import Derived.Test.YtabopabcehcdaaaWNEv
import Derived.Test.YtabopabcehcdaaaWMore
namespace Go.Proofs.Ytabopabcehcdaaa.Q
open Go.RowKit Go.Proofs.YtabopabcehcdaaaW.PrintWords Go.Proofs.YtabopabcehcdaaaW.PrintLast Go.Proofs.YtabopabcehcdaaaW.PrintMore
attribute [local go_sem] max2_int min2_int max_two min_two max_three min_three max_four min_four   -- for this text's walks alone
set_option linter.unusedVariables false
set_option linter.unusedSimpArgs false



def errW : Option Int → Value
  | none => .nilIface
  | some c => .iface 0 (.int .i64 c)
theorem errW_none : errW none = .nilIface := rfl
theorem errW_some (c : Int) : errW (some c) = .iface 0 (.int .i64 c) := rfl

-- the values' own types

end Go.Proofs.Ytabopabcehcdaaa.Q
