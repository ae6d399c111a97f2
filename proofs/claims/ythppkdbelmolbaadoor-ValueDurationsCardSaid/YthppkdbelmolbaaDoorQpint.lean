-- written by a program of this session (wip/own_print.sh)
import Derived.Test.YthppkdbelmolbaaDoorQ0
import Derived.Test.YthppkdbelmolbaaDoorShelfPI
namespace Go.Proofs.YthppkdbelmolbaaDoor.Q
open Go.RowKit Go.Proofs.YthppkdbelmolbaaDoorW.PrintWords Go.Proofs.YthppkdbelmolbaaDoorW.PrintLast Go.Proofs.YthppkdbelmolbaaDoorW.PrintMore
attribute [local go_sem] max2_int min2_int max_two min_two max_three min_three max_four min_four   -- for this text's walks alone
set_option linter.unusedVariables false
set_option linter.unusedSimpArgs false

/-! ### strconv_ParseInt_92: function 92 -/
-- GIVEN strconv.ParseInt	["str", "i64", "i64"]	["i64", "err"]	0	1
-- IMPORT ShelfPI
def strconv_ParseInt_92.f (a0 : ByteArray) (a1 a2 : Int) : Option (Int × Option Int) := if a1 = 10 ∧ a2 = 64 ∧ a0.size ≤ 9223372036854775806 then (match Lib.parseIntB 64 a0.data.toList with | .ok v => some (v, none) | _ => none) else none
theorem strconv_ParseInt_92.calls (a0 : ByteArray) (a1 a2 : Int) (r0 : Int) (r1 : Option Int) (w : World) (h : strconv_ParseInt_92.f a0 a1 a2 = some (r0, r1)) :
    Calls Tryd.prog 92 #[.string a0, .int .i64 a1, .int .i64 a2] w fun e w' => e = .returned (.tuple #[.int .i64 r0, errW r1]) ∧ Below w.heap.size w w' := by
  unfold strconv_ParseInt_92.f at h
  split at h
  · rename_i c
    obtain ⟨rfl, rfl, c3⟩ := c
    split at h
    · rename_i v hv
      have hr := Option.some.inj h
      simp only [Prod.mk.injEq] at hr
      obtain ⟨rfl, rfl⟩ := hr
      refine (Shelf.strconv_ParseInt_10_at64_ok a0 c3 v hv w).mono ?_
      rintro e w' ⟨rfl, hw⟩
      refine ⟨rfl, ?_⟩
      rcases hw with rfl | ⟨t, rfl⟩
      · exact Below.refl _ _
      · exact Lib.bytesWorld_below _ _ _
    · cases h
  · cases h

end Go.Proofs.YthppkdbelmolbaaDoor.Q
