/- The row of the law ClockOf: it returns true for every input and leaves its arguments as they were: with no condition. -/
import Derived.Test.YthppkdbelmolbaaRows
import Derived.Test.YthppkdbelmolbaaPureClockOf
import Derived.WalkKit
import Derived.ProofKit
import Derived.OpenShut
import Derived.ShutString
import Derived.ChangeOld
import Derived.Below
import Derived.SizedLaws
import Derived.Lib.SmallJoins
import Derived.Test.YthppkdbelmolbaaArr
namespace Go.Proofs.Ythppkdbelmolbaa.clockOf
open Go.ChangeShapes Go.WideShapes Go.ChangeAt Go.RowKit
open Go.ChangeMaps (open_string shut_string)
set_option linter.unusedVariables false
set_option linter.unusedSimpArgs false
theorem own : ownKnob Try.prog.godebug = none := by kernel_rfl
set_option maxRecDepth 100000 in
theorem lifted (os : Os) (started : os.Started) (H : Type) (enc : TypeId × Value → H) :
    ReturnsInHanded {} Try.checked os 5 .any (Rows.clockOfSpec.pre6 enc Try.prog Try.f5 Rows.clockOfRow.domain false) (Rows.clockOfSpec.post enc Try.prog Try.f5 false true false false) := by
  refine returnsInHanded_of_change_sized (C := Try.checked) own started (by kernel_rfl) Try.func5
    (ChangeSpec.witness6 (enc := enc) (C := Try.checked) false ⟨#[], #[.agg #[.int .i64 0, .int .i64 0, .int .i64 0], .agg #[.int .i64 0, .int .i64 0, .int .i64 0], .int .i64 0], []⟩ 8 (by kernel_rfl) (by kernel_rfl) (by kernel_rfl) (by kernel_rfl)) ?_
  intro W base args ds gs before hval0 hW hcnd hsz0 _
  have hsz : (DataW.weightsEach Try.prog (Try.f5.params.toList ++ Rows.clockOfSpec.plain.varTypes Try.prog) (ds ++ gs)).all (· ≤ reachBytes) = true := hsz0
  have hval : ∀ (j : Nat) t v, Try.f5.params[j]? = some t → args[j]? = some v → Value.okWide Try.prog W .any base t v := hval0
  have hW' := hW
  obtain ⟨p, q, hA0, hV, rfl, hfz, hnd⟩ := hW
  have hA : DataW.TrodAll enc Try.prog W 0 (fun _ => true) true Try.f5.params.toList args.toList ds p := hA0
  rw [Try.params5] at hA hval hsz
  obtain ⟨v0, vs0, d0, ds0, p0, q0, hargs0, rfl, rfl, h0, r0⟩ := trodAll_cons hA
  obtain ⟨v1, vs1, d1, ds1, p1, q1, hargs1, rfl, rfl, h1, r1⟩ := trodAll_cons r0
  obtain ⟨v2, vs2, d2, ds2, p2, q2, hargs2, rfl, rfl, h2, r2⟩ := trodAll_cons r1
  obtain ⟨rfl, rfl, rfl⟩ := trodAll_nil r2
  subst hargs2
  subst hargs1
  obtain rfl : args = #[v0, v1, v2] := by cases args; simp_all
  obtain ⟨rfl, rfl⟩ := trodVars_none hV
  obtain ⟨c00, c01, c02, y00, y01, y02, m0, rfl, rfl, rfl, t00, t01, t02⟩ := Joins.open_agg3 Try.underlying29 (by kernel_rfl) (by kernel_rfl) (hval 0 29 v0 rfl rfl) h0
  obtain ⟨a00, e00, rfl, w00⟩ := DataW.trod_int Try.underlying3 t00
  obtain ⟨a01, e01, rfl, w01⟩ := DataW.trod_int Try.underlying3 t01
  obtain ⟨a02, e02, rfl, w02⟩ := DataW.trod_int Try.underlying3 t02
  simp at e00 e01 e02
  subst e00 e01 e02
  obtain ⟨a10, a11, a12, rfl, rfl, rfl, w10, w11, w12⟩ := Arr.open3 Try.underlying30 (by kernel_rfl) (by kernel_rfl) Try.underlying3 (hval 1 30 v1 rfl rfl) h1
  obtain ⟨a2, rfl, rfl, rfl, w2⟩ := open_int Try.underlying3 (hval 2 3 v2 rfl rfl) h2
  clear hA0 hval0 hsz0 hsz
  refine (Pure.ClockOf_calls a00 a01 a02 a10 a11 a12 a2 W w00 w01 w02 w10 w11 w12 w2).mono fun e W' ⟨he, bel⟩ => ?_
  subst he
  exact ⟨_, rfl, _, _, _, [], _, [], hW', trodAll_mk1 (shut_bool Try.underlying4 _), (trodAll_cons_mk (Joins.shut_agg3 Try.underlying29 (by kernel_rfl) (by kernel_rfl) ⟨_, ChangeShapes.trod_int_mk 0 Try.underlying3 w00⟩ ⟨_, ChangeShapes.trod_int_mk 0 Try.underlying3 w01⟩ ⟨_, ChangeShapes.trod_int_mk 0 Try.underlying3 w02⟩) (trodAll_cons_mk (Arr.shut3 Try.underlying30 (by kernel_rfl) (by kernel_rfl) Try.underlying3 w10 w11 w12) (trodAll_cons_mk (shut_int Try.underlying3 w2) trodAll_mk0))), rfl, bel.frame _, fun h => by cases h⟩
theorem over : Rows.clockOfRow.holds Try.pinned (OpenSpec.ofChange Rows.clockOfSpec) :=
  OpenClaim.holds_of_wide 5 Try.f5 rfl rfl rfl rfl rfl rfl rfl ⟨rfl, rfl, rfl, rfl, rfl⟩ rfl rfl rfl rfl rfl (by kernel_rfl) Try.func5 (by kernel_rfl)
    (of_decide_eq_true (by kernel_rfl)) (by unfold Func.isWrapper; first | (rw [if_pos (by decide +kernel)]; kernel_rfl) | (rw [if_neg (by decide +kernel)]; exact ⟨rfl, rfl⟩))
    (fun os started H enc _ => lifted os started H enc)
theorem proved : Rows.ClockOfSaid := over
#print axioms proved
end Go.Proofs.Ythppkdbelmolbaa.clockOf
namespace Go.Proofs.Ythppkdbelmolbaa
/-- The row, under a short name, for the claim. -/
theorem clockOf_holds : Rows.ClockOfSaid := clockOf.proved
end Go.Proofs.Ythppkdbelmolbaa
