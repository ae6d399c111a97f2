-- written by a program of this session (wip/own_print.sh)
import Derived.Test.YthppkdbelmolbaaDoorQ0
import Derived.Test.YthppkdbelmolbaaDoorAwake12
namespace Go.Proofs.YthppkdbelmolbaaDoor.Q
open Go.RowKit Go.Proofs.YthppkdbelmolbaaDoorW.PrintWords Go.Proofs.YthppkdbelmolbaaDoorW.PrintLast Go.Proofs.YthppkdbelmolbaaDoorW.PrintMore
attribute [local go_sem] max2_int min2_int max_two min_two max_three min_three max_four min_four   -- for this text's walks alone
set_option linter.unusedVariables false
set_option linter.unusedSimpArgs false

/-! ### trystlaw12_awake: function 9 -/
-- GIVEN tryst/trystlaw12.awake	[]	["bool"]	0	1
-- IMPORT Awake12
def trystlaw12_awake.f : Option Bool := some true
theorem trystlaw12_awake.calls (r : Bool) (w : World) (h : trystlaw12_awake.f = some r) :
    Calls Tryd.prog 9 #[] w fun e w' => e = .returned (.bool r) ∧ Below w.heap.size w w' := by
  have hr := Option.some.inj h
  subst hr
  exact Awake12.awake w

end Go.Proofs.YthppkdbelmolbaaDoor.Q
