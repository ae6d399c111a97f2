/- The row of the law EventNewer: it returns true for every input and leaves its arguments as they were: with no condition. -/
import Derived.Test.YtddoidcbpcmlaaaRows
import Derived.Test.YtddoidcbpcmlaaaPureEventNewer
import Derived.WalkKit
import Derived.ProofKit
import Derived.OpenShut
import Derived.ShutString
import Derived.ChangeOld
import Derived.Below
import Derived.SizedLaws
import Derived.Lib.SmallJoins
import Derived.Test.YtddoidcbpcmlaaaArr
namespace Go.Proofs.Ytddoidcbpcmlaaa.eventNewer
open Go.ChangeShapes Go.WideShapes Go.ChangeAt Go.RowKit
open Go.ChangeMaps (open_string shut_string)
set_option linter.unusedVariables false
set_option linter.unusedSimpArgs false
theorem own : ownKnob Try.prog.godebug = none := by kernel_rfl
set_option maxRecDepth 100000 in
theorem lifted (os : Os) (started : os.Started) (H : Type) (enc : TypeId × Value → H) :
    ReturnsInHanded {} Try.checked os 3 .any (Rows.eventNewerSpec.pre6 enc Try.prog Try.f3 Rows.eventNewerRow.domain false) (Rows.eventNewerSpec.post enc Try.prog Try.f3 false true false false) := by
  refine returnsInHanded_of_change_sized (C := Try.checked) own started (by kernel_rfl) Try.func3
    (ChangeSpec.witness6 (enc := enc) (C := Try.checked) false ⟨#[], #[.agg #[.int .i64 0, .int .i64 0], .agg #[.int .i64 0, .int .i64 0], .agg #[.int .i64 0, .int .i64 0]], []⟩ 8 (by kernel_rfl) (by kernel_rfl) (by kernel_rfl) (by kernel_rfl)) ?_
  intro W base args ds gs before hval0 hW hcnd hsz0 _
  have hsz : (DataW.weightsEach Try.prog (Try.f3.params.toList ++ Rows.eventNewerSpec.plain.varTypes Try.prog) (ds ++ gs)).all (· ≤ reachBytes) = true := hsz0
  have hval : ∀ (j : Nat) t v, Try.f3.params[j]? = some t → args[j]? = some v → Value.okWide Try.prog W .any base t v := hval0
  have hW' := hW
  obtain ⟨p, q, hA0, hV, rfl, hfz, hnd⟩ := hW
  have hA : DataW.TrodAll enc Try.prog W 0 (fun _ => true) true Try.f3.params.toList args.toList ds p := hA0
  rw [Try.params3] at hA hval hsz
  obtain ⟨v0, vs0, d0, ds0, p0, q0, hargs0, rfl, rfl, h0, r0⟩ := trodAll_cons hA
  obtain ⟨v1, vs1, d1, ds1, p1, q1, hargs1, rfl, rfl, h1, r1⟩ := trodAll_cons r0
  obtain ⟨v2, vs2, d2, ds2, p2, q2, hargs2, rfl, rfl, h2, r2⟩ := trodAll_cons r1
  obtain ⟨rfl, rfl, rfl⟩ := trodAll_nil r2
  subst hargs2
  subst hargs1
  obtain rfl : args = #[v0, v1, v2] := by cases args; simp_all
  obtain ⟨rfl, rfl⟩ := trodVars_none hV
  obtain ⟨a00, a01, rfl, rfl, rfl, w00, w01⟩ := Arr.open2 Try.underlying22 (by kernel_rfl) (by kernel_rfl) Try.underlying2 (hval 0 22 v0 rfl rfl) h0
  obtain ⟨a10, a11, rfl, rfl, rfl, w10, w11⟩ := Arr.open2 Try.underlying22 (by kernel_rfl) (by kernel_rfl) Try.underlying2 (hval 1 22 v1 rfl rfl) h1
  obtain ⟨a20, a21, rfl, rfl, rfl, w20, w21⟩ := Arr.open2 Try.underlying22 (by kernel_rfl) (by kernel_rfl) Try.underlying2 (hval 2 22 v2 rfl rfl) h2
  clear hA0 hval0 hsz0 hsz
  refine (Pure.EventNewer_calls a00 a01 a10 a11 a20 a21 W w00 w01 w10 w11 w20 w21).mono fun e W' ⟨he, bel⟩ => ?_
  subst he
  exact ⟨_, rfl, _, _, _, [], _, [], hW', trodAll_mk1 (shut_bool Try.underlying4 _), (trodAll_cons_mk (Arr.shut2 Try.underlying22 (by kernel_rfl) (by kernel_rfl) Try.underlying2 w00 w01) (trodAll_cons_mk (Arr.shut2 Try.underlying22 (by kernel_rfl) (by kernel_rfl) Try.underlying2 w10 w11) (trodAll_cons_mk (Arr.shut2 Try.underlying22 (by kernel_rfl) (by kernel_rfl) Try.underlying2 w20 w21) trodAll_mk0))), rfl, bel.frame _, fun h => by cases h⟩
theorem over : Rows.eventNewerRow.holds Try.pinned (OpenSpec.ofChange Rows.eventNewerSpec) :=
  OpenClaim.holds_of_wide 3 Try.f3 rfl rfl rfl rfl rfl rfl rfl ⟨rfl, rfl, rfl, rfl, rfl⟩ rfl rfl rfl rfl rfl (by kernel_rfl) Try.func3 (by kernel_rfl)
    (of_decide_eq_true (by kernel_rfl)) (by unfold Func.isWrapper; first | (rw [if_pos (by decide +kernel)]; kernel_rfl) | (rw [if_neg (by decide +kernel)]; exact ⟨rfl, rfl⟩))
    (fun os started H enc _ => lifted os started H enc)
theorem proved : Rows.EventNewerSaid := over
#print axioms proved
end Go.Proofs.Ytddoidcbpcmlaaa.eventNewer
namespace Go.Proofs.Ytddoidcbpcmlaaa
/-- The row, under a short name, for the claim. -/
theorem eventNewer_holds : Rows.EventNewerSaid := eventNewer.proved
end Go.Proofs.Ytddoidcbpcmlaaa
