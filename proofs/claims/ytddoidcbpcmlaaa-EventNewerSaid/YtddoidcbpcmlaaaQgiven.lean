-- written by a program of this session (wip/own_print.sh)
import Derived.Test.YtddoidcbpcmlaaaQ0
import Derived.Test.YtddoidcbpcmlaaaShelfAny
namespace Go.Proofs.Ytddoidcbpcmlaaa.Q
open Go.RowKit Go.Proofs.YtddoidcbpcmlaaaW.PrintWords Go.Proofs.YtddoidcbpcmlaaaW.PrintLast Go.Proofs.YtddoidcbpcmlaaaW.PrintMore
attribute [local go_sem] max2_int min2_int max_two min_two max_three min_three max_four min_four   -- for this text's walks alone
set_option linter.unusedVariables false
set_option linter.unusedSimpArgs false

/-! ### strings_ContainsAny: function 31 -/
-- GIVEN strings.ContainsAny	["str", "str"]	["bool"]	0	1
-- IMPORT ShelfAny
def strings_ContainsAny.f (a0 a1 : ByteArray) : Option Bool := if a0.size < 4294967281 ∧ a1.size < 4294967281 ∧ a0.data.toList.all (fun b => decide (b.toNat < 128)) = true ∧ a1.data.toList.all (fun b => decide (b.toNat < 128)) = true then some (Lib.containsAny a0.data.toList a1.data.toList) else none
theorem strings_ContainsAny.calls (a0 a1 : ByteArray) (r : Bool) (w : World) (h : strings_ContainsAny.f a0 a1 = some r) :
    Calls Try.prog 31 #[.string a0, .string a1] w fun e w' => e = .returned (.bool r) ∧ Below w.heap.size w w' := by
  unfold strings_ContainsAny.f at h
  split at h
  · rename_i c
    obtain ⟨c1, c2, c3, c4⟩ := c
    have hr := Option.some.inj h
    subst hr
    refine Shelf.strings_ContainsAny_laid a0 a1 w c1 c2 ?_ ?_
    · intro j b hb
      exact of_decide_eq_true (List.all_eq_true.mp c3 b (List.mem_of_getElem? hb))
    · intro j b hb
      exact of_decide_eq_true (List.all_eq_true.mp c4 b (List.mem_of_getElem? hb))
  · cases h

end Go.Proofs.Ytddoidcbpcmlaaa.Q
