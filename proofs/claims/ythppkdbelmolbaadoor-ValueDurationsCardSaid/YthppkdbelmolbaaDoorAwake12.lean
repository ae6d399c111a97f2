/- strconv.FormatInt of a number below 100, and what awake of trystlaw12 reaches: value.Duration(5400). -/
import Derived.Test.YthppkdbelmolbaaDoorQstrA
import Derived.Test.YthppkdbelmolbaaDoorQconvS
import Derived.Lib.Hide
namespace Go.Proofs.YthppkdbelmolbaaDoor.Awake12
open Go.RowKit Go.Proofs.YthppkdbelmolbaaDoorW.PrintWords Go.Proofs.YthppkdbelmolbaaDoorW.PrintLast Go.Proofs.YthppkdbelmolbaaDoor.Q
set_option linter.unusedVariables false
set_option linter.unusedSimpArgs false
theorem fmtI (n : Int) (s : ByteArray) (w : World) (h0 : 0 ≤ n) (h1 : n < 100) (hs : strconv_small.f n = some s) :
    Calls Tryd.prog 65 #[.int .i64 n, .int .i64 10] w fun e w' => e = .returned (.string s) ∧ Below w.heap.size w w' := by
  have HS := Lib.hid hs
  have b0 : decide (0 ≤ n) = true := decide_eq_true h0
  have b1 : decide (n < 100) = true := decide_eq_true h1
  clear hs h0 h1
  go_enter Tryd.func65, Tryd.ntmps65
  go_wp2_with fail
  refine (strconv_small.calls n _ _ HS.out).mono ?_
  rintro e w' ⟨rfl, ⟨nd, rfl⟩⟩
  go_wp2
  go_ret
  exact ⟨rfl, by repeat (with_reducible first | exact Below.refl _ _ | apply pw_below_drewN | apply below_alloc)⟩
theorem fmt (n : Int) (s : ByteArray) (w : World) (h0 : 0 ≤ n) (h1 : n < 100) (hs : strconv_small.f n = some s) :
    Calls Tryd.prog 44 #[.int .i64 n, .int .i64 10] w fun e w' => e = .returned (.string s) ∧ Below w.heap.size w w' := by
  go_enter Tryd.func44, Tryd.ntmps44
  go_wp2_with fail
  refine (fmtI n s _ h0 h1 hs).mono ?_
  rintro e w1 ⟨rfl, hB⟩
  have B := Lib.hid hB
  clear hB
  go_wp2
  go_ret
  exact ⟨rfl, by repeat (with_reducible first | exact B.out | apply pw_below_drewN | apply below_alloc)⟩
theorem small1 : strconv_small.f 1 = some ⟨#[49]⟩ := by kernel_rfl
theorem small30 : strconv_small.f 30 = some ⟨#[51, 48]⟩ := by kernel_rfl
set_option maxHeartbeats 4000000 in
theorem part (w : World) : Calls Tryd.prog 45 #[.int .i64 5400] w fun e w' => e = .returned (.string ⟨#[49, 72, 51, 48, 77]⟩) ∧ Below w.heap.size w w' := by
  go_enter Tryd.func45, Tryd.ntmps45
  go_wp2_with fail
  refine (fmt 1 _ _ (by omega) (by omega) small1).mono ?_
  rintro e w1 ⟨rfl, hB⟩
  have B := Lib.hid hB
  clear hB
  go_wp2_with fail
  refine (fmt 30 _ _ (by omega) (by omega) small30).mono ?_
  rintro e w2 ⟨rfl, hB2⟩
  have B2 := Lib.hid (below_then B.out B.out.size hB2)
  clear hB2 B
  go_wp2
  go_ret
  exact ⟨rfl, by repeat (with_reducible first | exact B2.out | apply pw_below_drewN | apply below_alloc)⟩
set_option maxHeartbeats 4000000 in
theorem dur (w : World) : Calls Tryd.prog 22 #[.int .i64 5400] w fun e w' => e = .returned (.tuple #[.string ⟨#[80, 84, 49, 72, 51, 48, 77]⟩, .int .i64 0]) ∧ Below w.heap.size w w' := by
  go_enter Tryd.func22, Tryd.ntmps22
  go_wp2_with fail
  refine (part _).mono ?_
  rintro e w1 ⟨rfl, hB⟩
  have B := Lib.hid hB
  clear hB
  go_wp2
  go_ret2
  exact ⟨rfl, by repeat (with_reducible first | exact B.out | apply pw_below_drewN | apply below_alloc)⟩
theorem awake (w : World) : Calls Tryd.prog 9 #[] w fun e w' => e = .returned (.bool true) ∧ Below w.heap.size w w' := by
  go_enter Tryd.func9, Tryd.ntmps9
  go_wp2_with fail
  refine (dur _).mono ?_
  rintro e w1 ⟨rfl, hB⟩
  have B := Lib.hid hB
  clear hB
  go_wp2
  go_ret
  exact ⟨rfl, by repeat (with_reducible first | exact B.out | apply pw_below_drewN | apply below_alloc)⟩
end Go.Proofs.YthppkdbelmolbaaDoor.Awake12
