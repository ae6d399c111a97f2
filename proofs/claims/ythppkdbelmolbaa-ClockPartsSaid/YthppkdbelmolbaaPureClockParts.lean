/- Right, Day, Second and Parts of all seconds are as specified, and inverse to At and Of: for every whole number of 64 bits, with no condition. -/
import Derived.Test.YthppkdbelmolbaaFunQ
import Derived.Test.YthppkdbelmolbaaFunD
import Derived.Test.YthppkdbelmolbaaArrEq
import Derived.Lib.Hide
namespace Go.Proofs.Ythppkdbelmolbaa.Pure
open Go.RowKit Go.Proofs.YthppkdbelmolbaaW.PrintWords Go.Proofs.YthppkdbelmolbaaW.PrintLast Go.Proofs.Ythppkdbelmolbaa.Q Go.Proofs.Ythppkdbelmolbaa.Cal Go.Proofs.Ythppkdbelmolbaa.FunA Go.Proofs.Ythppkdbelmolbaa.FunB Go.Proofs.Ythppkdbelmolbaa.FunC Go.Proofs.Ythppkdbelmolbaa.FunD Go.Proofs.Ythppkdbelmolbaa.Fmt Go.Proofs.Ythppkdbelmolbaa.Awake7 Go.Proofs.Ythppkdbelmolbaa.FunQ
set_option linter.unusedVariables false
set_option linter.unusedSimpArgs false
namespace ClockPartsW
theorem eqA (x y z x' y' z' : Int) (w : World) : (binOp .eql 30 (.agg #[.int .i64 x, .int .i64 y, .int .i64 z]) (.agg #[.int .i64 x', .int .i64 y', .int .i64 z'])).run Try.prog w = .ok (.bool (x == x' && (y == y' && z == z'))) w :=
  ArrEq.eq3 w Try.prog 3 Try.underlying3 Try.sizeOf3 Try.isAgg3 30 Try.underlying30 x y z x' y' z'
attribute [local go_sem high] eqA
theorem fRight_eq (a : Int) : trystref01_Right.f a = clock_Right.f a := rfl
set_option maxHeartbeats 8000000 in
set_option maxRecDepth 100000 in
theorem no (a : Int) (w : World) (h : ¬ Ok a) :
    Calls Try.prog 4 #[.int .i64 a] w fun e w' => e = .returned (.bool true) ∧ Below w.heap.size w w' := by
  have HR := Lib.hid (cRight_no h)
  have HF : Hid (trystref01_Right.f a = some false) := Lib.hid (cRight_no h)
  have HY := Lib.hid (cDay_no h)
  have HS := Lib.hid (cSecond_no h)
  clear h
  go_enter Try.func4, Try.ntmps4
  go_wp2_with fail
  refine (awake _).mono ?_
  rintro e wA ⟨rfl, hA⟩
  go_wp2_with fail
  refine (parts_no a _ HR.out).mono ?_
  rintro e w1 ⟨rfl, hB1⟩
  have B1 := Lib.hid (below_then hA hA.size hB1)
  clear hA hB1
  go_wp2_with fail
  refine (trystref01_Right.calls a _ _ HF.out).mono ?_
  rintro e w' ⟨rfl, ⟨n1, rfl⟩⟩
  go_wp2_with fail
  refine (clock_Right.calls a _ _ HR.out).mono ?_
  rintro e w' ⟨rfl, ⟨n2, rfl⟩⟩
  go_wp2_with fail
  refine (clock_Day.calls a _ _ HY.out).mono ?_
  rintro e w' ⟨rfl, ⟨n3, rfl⟩⟩
  go_wp2_with fail
  refine (clock_Second.calls a _ _ HS.out).mono ?_
  rintro e w' ⟨rfl, ⟨n4, rfl⟩⟩
  go_wp2
  go_ret
  exact ⟨rfl, by repeat (with_reducible first | exact B1.out | apply pw_below_drewN | apply below_alloc)⟩
set_option maxHeartbeats 8000000 in
set_option maxRecDepth 100000 in
theorem yes (k : Nat) (a day y m d s : Int) (w : World) (ha : 86400 ≤ a) (ha' : a < 315537984000) (hday : a / 86400 = day) (hss : a % 86400 = s) (hsb : 0 ≤ s ∧ s < 86400)
    (hR : clock_Right.f a = some true) (hY : clock_Day.f a = some day) (hD : rata_Date.f k day = some (y, m, d, 0)) (hE : trystref01_Date.f k 0 day = some (y, m, d, 0)) (hS : clock_Second.f a = some s)
    (hO : clock_Of.f k y m d (s / 3600) (s / 60 % 60) (s % 60) = some (a, 0)) (hA : clock_At.f day s = some (a, 0)) :
    Calls Try.prog 4 #[.int .i64 a] w fun e w' => e = .returned (.bool true) ∧ Below w.heap.size w w' := by
  have HR := Lib.hid hR
  have HF : Hid (trystref01_Right.f a = some true) := Lib.hid hR
  have HY := Lib.hid hY; have HD := Lib.hid hD; have HE := Lib.hid hE; have HS := Lib.hid hS; have HO := Lib.hid hO; have HA := Lib.hid hA
  clear hR hY hD hE hS hO hA
  obtain ⟨hs1, hs2⟩ := hsb
  go_enter Try.func4, Try.ntmps4
  go_wp2_with fail
  refine (awake _).mono ?_
  rintro e wA ⟨rfl, hA⟩
  go_wp2_with fail
  refine (parts_yes k a day y m d s _ HR.out HY.out HD.out HS.out hs1 hs2).mono ?_
  rintro e w1 ⟨rfl, hB1⟩
  have B1 := Lib.hid (below_then hA hA.size hB1)
  clear hA hB1
  go_wp2_with fail
  refine (trystref01_Right.calls a _ _ HF.out).mono ?_
  rintro e w' ⟨rfl, ⟨n1, rfl⟩⟩
  go_wp2_with fail
  refine (trystref01_Date.calls k 0 day _ _ _ _ _ HE.out).mono ?_
  rintro e w2 ⟨rfl, hB2⟩
  have i0 : w2.cell? ⟨w1.heap.size, 0, none⟩ = some (.int .i64 (y)) := (hB2.cell (p := ⟨w1.heap.size, 0, none⟩) (by simp <;> omega)).trans (by go_simp)
  have i1 : w2.cell? ⟨w1.heap.size, 1, none⟩ = some (.int .i64 (m)) := (hB2.cell (p := ⟨w1.heap.size, 1, none⟩) (by simp <;> omega)).trans (by go_simp)
  have i2 : w2.cell? ⟨w1.heap.size, 2, none⟩ = some (.int .i64 (d)) := (hB2.cell (p := ⟨w1.heap.size, 2, none⟩) (by simp <;> omega)).trans (by go_simp)
  have ip0 : w2.cell? ⟨w1.heap.size + 1, 0, none⟩ = some (.int .i64 (s / 3600)) := (hB2.cell (p := ⟨w1.heap.size + 1, 0, none⟩) (by simp <;> omega)).trans (by go_simp)
  have ip1 : w2.cell? ⟨w1.heap.size + 1, 1, none⟩ = some (.int .i64 (s / 60 % 60)) := (hB2.cell (p := ⟨w1.heap.size + 1, 1, none⟩) (by simp <;> omega)).trans (by go_simp)
  have ip2 : w2.cell? ⟨w1.heap.size + 1, 2, none⟩ = some (.int .i64 (s % 60)) := (hB2.cell (p := ⟨w1.heap.size + 1, 2, none⟩) (by simp <;> omega)).trans (by go_simp)
  have hz2 : w1.heap.size + 1 < w2.heap.size := by have := hB2.size; simp at this; omega
  have hz2' : w1.heap.size < w2.heap.size := by omega
  have C1 := pw_below_drewN (below_alloc (below_alloc B1.out (.cells #[.int .i64 y, .int .i64 m, .int .i64 d] 29)) (.cells #[.int .i64 (s / 3600), .int .i64 (s / 60 % 60), .int .i64 (s % 60)] 30)) n1
  have B2 := Lib.hid (below_then C1 C1.size hB2)
  clear C1 hB2
  go_wp2_with fail
  refine (clock_Of.calls k y m d _ _ _ _ _ _ HO.out).mono ?_
  rintro e w3 ⟨rfl, hB3⟩
  have j0 : w3.cell? ⟨w1.heap.size, 0, none⟩ = some (.int .i64 (y)) := (hB3.cell (p := ⟨w1.heap.size, 0, none⟩) (by simp <;> omega)).trans (by go_simp)
  have j1 : w3.cell? ⟨w1.heap.size, 1, none⟩ = some (.int .i64 (m)) := (hB3.cell (p := ⟨w1.heap.size, 1, none⟩) (by simp <;> omega)).trans (by go_simp)
  have j2 : w3.cell? ⟨w1.heap.size, 2, none⟩ = some (.int .i64 (d)) := (hB3.cell (p := ⟨w1.heap.size, 2, none⟩) (by simp <;> omega)).trans (by go_simp)
  have jp0 : w3.cell? ⟨w1.heap.size + 1, 0, none⟩ = some (.int .i64 (s / 3600)) := (hB3.cell (p := ⟨w1.heap.size + 1, 0, none⟩) (by simp <;> omega)).trans (by go_simp)
  have jp1 : w3.cell? ⟨w1.heap.size + 1, 1, none⟩ = some (.int .i64 (s / 60 % 60)) := (hB3.cell (p := ⟨w1.heap.size + 1, 1, none⟩) (by simp <;> omega)).trans (by go_simp)
  have jp2 : w3.cell? ⟨w1.heap.size + 1, 2, none⟩ = some (.int .i64 (s % 60)) := (hB3.cell (p := ⟨w1.heap.size + 1, 2, none⟩) (by simp <;> omega)).trans (by go_simp)
  have jq0 : w3.cell? ⟨w2.heap.size, 0, none⟩ = some (.int .i64 (y)) := (hB3.cell (p := ⟨w2.heap.size, 0, none⟩) (by simp <;> omega)).trans (by go_simp)
  have jq1 : w3.cell? ⟨w2.heap.size, 1, none⟩ = some (.int .i64 (m)) := (hB3.cell (p := ⟨w2.heap.size, 1, none⟩) (by simp <;> omega)).trans (by go_simp)
  have jq2 : w3.cell? ⟨w2.heap.size, 2, none⟩ = some (.int .i64 (d)) := (hB3.cell (p := ⟨w2.heap.size, 2, none⟩) (by simp <;> omega)).trans (by go_simp)
  clear i0 i1 i2 ip0 ip1 ip2
  have C1 := below_alloc B2.out (.cells #[.int .i64 y, .int .i64 m, .int .i64 d] 29)
  have B3 := Lib.hid (below_then C1 C1.size hB3)
  clear C1 hB3
  go_wp2_with fail
  refine (clock_Day.calls a _ _ HY.out).mono ?_
  rintro e w' ⟨rfl, ⟨n2, rfl⟩⟩
  go_wp2_with fail
  refine (clock_Second.calls a _ _ HS.out).mono ?_
  rintro e w' ⟨rfl, ⟨n3, rfl⟩⟩
  go_wp2_with fail
  refine (clock_At.calls day s _ _ _ HA.out).mono ?_
  rintro e w' ⟨rfl, ⟨n4, rfl⟩⟩
  go_wp2_with fail
  refine (clock_Right.calls a _ _ HR.out).mono ?_
  rintro e w' ⟨rfl, ⟨n5, rfl⟩⟩
  go_wp2_with fail
  refine (clock_Day.calls a _ _ HY.out).mono ?_
  rintro e w' ⟨rfl, ⟨n6, rfl⟩⟩
  go_wp2_with fail
  refine (clock_Second.calls a _ _ HS.out).mono ?_
  rintro e w' ⟨rfl, ⟨n7, rfl⟩⟩
  go_wp2
  go_ret
  exact ⟨rfl, by repeat (with_reducible first | exact B3.out | apply pw_below_drewN | apply below_alloc)⟩
end ClockPartsW
theorem ClockParts_calls (a : Int) (w : World) (wf : (Lit.int .i64 a).wf = true) :
    Calls Try.prog 4 #[.int .i64 a] w fun e w' => e = .returned (.bool true) ∧ Below w.heap.size w w' := by
  by_cases h : Ok a
  · have hi := ok_in h
    have hy := yr_In hi
    obtain ⟨m, d, e, hd⟩ := rDate_yes 200 (by omega) _ hi
    obtain ⟨y', m', d', e', hd'⟩ := fDate0 200 (by omega) _ hi
    obtain ⟨r1, r2, r3⟩ := Is.one greg hd' hd
    subst r1 r2 r3
    have hr := Is.right hd hy.1 hy.2
    obtain ⟨h1, h2⟩ := h
    have ht : Time (a % 86400 / 3600) (a % 86400 / 60 % 60) (a % 86400 % 60) := ⟨by omega, by omega, by omega, by omega, by omega, by omega⟩
    have hO := cOf_yes 200 (by omega) hr ht
    rw [← hd.e] at hO
    have e3 : 86400 * (a / 86400) + (3600 * (a % 86400 / 3600) + 60 * (a % 86400 / 60 % 60) + a % 86400 % 60) = a := by omega
    rw [e3] at hO
    have hA := cAt_yes hi (show 0 ≤ a % 86400 by omega) (by omega)
    rw [show 86400 * (a / 86400) + a % 86400 = a by omega] at hA
    exact ClockPartsW.yes 200 a _ _ m' d' _ w h1 h2 rfl rfl ⟨by omega, by omega⟩ (cRight_yes ⟨h1, h2⟩) (cDay_yes ⟨h1, h2⟩) e e' (cSecond_yes ⟨h1, h2⟩) hO hA
  · exact ClockPartsW.no a w h
end Go.Proofs.Ythppkdbelmolbaa.Pure
