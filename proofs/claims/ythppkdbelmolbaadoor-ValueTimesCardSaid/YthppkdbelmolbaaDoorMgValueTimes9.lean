/- Texts of this claim, merged: QnumR. -/
import Derived.Test.YthppkdbelmolbaaDoorMgValueTimes1
-- written by a program of this session (wip/own_print.sh)
namespace Go.Proofs.YthppkdbelmolbaaDoor.Q
theorem kept_YthppkdbelmolbaaDoorQnumR : True := trivial
open Go.RowKit Go.Proofs.YthppkdbelmolbaaDoorW.PrintWords Go.Proofs.YthppkdbelmolbaaDoorW.PrintLast Go.Proofs.YthppkdbelmolbaaDoorW.PrintMore
attribute [local go_sem] max2_int min2_int max_two min_two max_three min_three max_four min_four   -- for this text's walks alone
set_option linter.unusedVariables false
set_option linter.unusedSimpArgs false
/-! ### trystref12_Digits: function 28 -/
/-! ### trystref12_Plain: function 11 -/
end Go.Proofs.YthppkdbelmolbaaDoor.Q
