/- The row of the law IsoDays: it returns true for every input and leaves its arguments as they were: with no condition. -/
import Derived.Test.YtabopabcehcdaaaRows
import Derived.Test.YtabopabcehcdaaaPureIsoDays
import Derived.WalkKit
import Derived.ProofKit
import Derived.OpenShut
import Derived.ShutString
import Derived.ChangeOld
import Derived.Below
import Derived.SizedLaws
import Derived.Lib.SmallJoins
namespace Go.Proofs.Ytabopabcehcdaaa.isoDays
open Go.ChangeShapes Go.WideShapes Go.ChangeAt Go.RowKit
open Go.ChangeMaps (open_string shut_string)
set_option linter.unusedVariables false
set_option linter.unusedSimpArgs false
theorem own : ownKnob Try.prog.godebug = none := by kernel_rfl
set_option maxRecDepth 100000 in
theorem lifted (os : Os) (started : os.Started) (H : Type) (enc : TypeId × Value → H) :
    ReturnsInHanded {} Try.checked os 3 .any (Rows.isoDaysSpec.pre6 enc Try.prog Try.f3 Rows.isoDaysRow.domain false) (Rows.isoDaysSpec.post enc Try.prog Try.f3 false true false false) := by
  refine returnsInHanded_of_change_sized (C := Try.checked) own started (by kernel_rfl) Try.func3
    (ChangeSpec.witness6 (enc := enc) (C := Try.checked) false ⟨#[], #[.agg #[.int .i64 0, .int .i64 0, .int .i64 0]], []⟩ 8 (by kernel_rfl) (by kernel_rfl) (by kernel_rfl) (by kernel_rfl)) ?_
  intro W base args ds gs before hval0 hW hcnd hsz0 _
  have hsz : (DataW.weightsEach Try.prog (Try.f3.params.toList ++ Rows.isoDaysSpec.plain.varTypes Try.prog) (ds ++ gs)).all (· ≤ reachBytes) = true := hsz0
  have hval : ∀ (j : Nat) t v, Try.f3.params[j]? = some t → args[j]? = some v → Value.okWide Try.prog W .any base t v := hval0
  have hW' := hW
  obtain ⟨p, q, hA0, hV, rfl, hfz, hnd⟩ := hW
  have hA : DataW.TrodAll enc Try.prog W 0 (fun _ => true) true Try.f3.params.toList args.toList ds p := hA0
  rw [Try.params3] at hA hval hsz
  obtain ⟨v0, vs0, d0, ds0, p0, q0, hargs0, rfl, rfl, h0, r0⟩ := trodAll_cons hA
  obtain ⟨rfl, rfl, rfl⟩ := trodAll_nil r0
  obtain rfl : args = #[v0] := by cases args; simp_all
  obtain ⟨rfl, rfl⟩ := trodVars_none hV
  obtain ⟨c00, c01, c02, y00, y01, y02, m0, rfl, rfl, rfl, t00, t01, t02⟩ := Joins.open_agg3 Try.underlying23 (by kernel_rfl) (by kernel_rfl) (hval 0 23 v0 rfl rfl) h0
  obtain ⟨a00, e00, rfl, w00⟩ := DataW.trod_int Try.underlying3 t00
  obtain ⟨a01, e01, rfl, w01⟩ := DataW.trod_int Try.underlying3 t01
  obtain ⟨a02, e02, rfl, w02⟩ := DataW.trod_int Try.underlying3 t02
  simp at e00 e01 e02
  subst e00 e01 e02
  clear hA0 hval0 hsz0 hsz
  refine (Pure.IsoDays_calls a00 a01 a02 W w00 w01 w02).mono fun e W' ⟨he, bel⟩ => ?_
  subst he
  exact ⟨_, rfl, _, _, _, [], _, [], hW', trodAll_mk1 (shut_bool Try.underlying4 _), (trodAll_cons_mk (Joins.shut_agg3 Try.underlying23 (by kernel_rfl) (by kernel_rfl) ⟨_, ChangeShapes.trod_int_mk 0 Try.underlying3 w00⟩ ⟨_, ChangeShapes.trod_int_mk 0 Try.underlying3 w01⟩ ⟨_, ChangeShapes.trod_int_mk 0 Try.underlying3 w02⟩) trodAll_mk0), rfl, bel.frame _, fun h => by cases h⟩
theorem over : Rows.isoDaysRow.holds Try.pinned (OpenSpec.ofChange Rows.isoDaysSpec) :=
  OpenClaim.holds_of_wide 3 Try.f3 rfl rfl rfl rfl rfl rfl rfl ⟨rfl, rfl, rfl, rfl, rfl⟩ rfl rfl rfl rfl rfl (by kernel_rfl) Try.func3 (by kernel_rfl)
    (of_decide_eq_true (by kernel_rfl)) (by unfold Func.isWrapper; first | (rw [if_pos (by decide +kernel)]; kernel_rfl) | (rw [if_neg (by decide +kernel)]; exact ⟨rfl, rfl⟩))
    (fun os started H enc _ => lifted os started H enc)
theorem proved : Rows.IsoDaysSaid := over
#print axioms proved
end Go.Proofs.Ytabopabcehcdaaa.isoDays
namespace Go.Proofs.Ytabopabcehcdaaa
/-- The row, under a short name, for the claim. -/
theorem isoDays_holds : Rows.IsoDaysSaid := isoDays.proved
end Go.Proofs.Ytabopabcehcdaaa
