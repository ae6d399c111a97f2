-- written by a program of this session (wip/own_print.sh)
import Derived.Test.YtabopabcehcdaabProg
import Derived.Below
import Derived.Deep.Draws
import Derived.Deep.AppendLies
import Derived.Maps.AppendAt
import Derived.OwnWalk
import Derived.Laws.BytesArg
import Derived.Laws.MakeOwn
import Derived.Laws.OwnMore
import Derived.Deep.OwnRows
import Derived.Tactics
import Derived.Lib.ConvBytes
import Derived.Laws.Slices
import Derived.WalkKit
import Derived.KernelRfl
import Derived.RowKit3
import Derived.Deep.LoopGhost
import Derived.Deep.QuietTactic
import Derived.BigQuiet
import Derived.WideLaws
import Derived.Deep.DeepCutAuto
import Derived.Deep.CutBlock
import Derived.Deep.RegionHeld3
import Derived.Laws.Rows
import Derived.Lib.AppendStr
import Derived.ArgAppend
import Derived.Laws.IdiomCopy
import Derived.OrdersHeld
import Derived.Laws.BitsLemmas
import Derived.RowKit
import Derived.Test.YtabopabcehcdaabWWords
import Derived.Test.YtabopabcehcdaabWLast
import Derived.Test.YtabopabcehcdaabWTab
import Derived.Test.YtabopabcehcdaabWFour
import Derived.Test.YtabopabcehcdaabWQPut
import Derived.Test.YtabopabcehcdaabWApart
import Derived.Test.YtabopabcehcdaabWArr
import Derived.Test.YtabopabcehcdaabWZeros
import Derived.Test.YtabopabcehcdaabWFoot
import Derived.Test.YtabopabcehcdaabWKept
import Derived.Test.YtabopabcehcdaabWShare
import Derived.Test.YtabopabcehcdaabWN
import Derived.Test.YtabopabcehcdaabWFootNe
import Derived.Test.YtabopabcehcdaabWAt
import Derived.Test.YtabopabcehcdaabWEqStruct
import Derived.Test.YtabopabcehcdaabWRepsOne
import Derived.Test.YtabopabcehcdaabWInv
import Derived.Test.YtabopabcehcdaabWInvWords
import Derived.Test.YtabopabcehcdaabWGuard
import Derived.Test.YtabopabcehcdaabWNEv
import Derived.Test.YtabopabcehcdaabWMore
namespace Go.Proofs.Ytabopabcehcdaab.Q
open Go.RowKit Go.Proofs.YtabopabcehcdaabW.PrintWords Go.Proofs.YtabopabcehcdaabW.PrintLast Go.Proofs.YtabopabcehcdaabW.PrintMore
attribute [local go_sem] max2_int min2_int max_two min_two max_three min_three max_four min_four   -- for this text's walks alone
set_option linter.unusedVariables false
set_option linter.unusedSimpArgs false



def errW : Option Int → Value
  | none => .nilIface
  | some c => .iface 0 (.int .i64 c)
theorem errW_none : errW none = .nilIface := rfl
theorem errW_some (c : Int) : errW (some c) = .iface 0 (.int .i64 c) := rfl

-- the values' own types

end Go.Proofs.Ytabopabcehcdaab.Q
