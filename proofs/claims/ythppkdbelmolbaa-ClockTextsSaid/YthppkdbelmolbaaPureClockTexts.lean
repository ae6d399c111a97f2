/- The texts of all seconds and days are as specified and are parsed back: for every whole number of 64 bits, with no condition. -/
import Derived.Test.YthppkdbelmolbaaFunP
import Derived.Test.YthppkdbelmolbaaFunD
import Derived.Test.YthppkdbelmolbaaArrEq
import Derived.Lib.Hide
namespace Go.Proofs.Ythppkdbelmolbaa.Pure
open Go.RowKit Go.Proofs.YthppkdbelmolbaaW.PrintWords Go.Proofs.YthppkdbelmolbaaW.PrintLast Go.Proofs.Ythppkdbelmolbaa.Q Go.Proofs.Ythppkdbelmolbaa.Cal Go.Proofs.Ythppkdbelmolbaa.FunA Go.Proofs.Ythppkdbelmolbaa.FunB Go.Proofs.Ythppkdbelmolbaa.FunC Go.Proofs.Ythppkdbelmolbaa.FunD Go.Proofs.Ythppkdbelmolbaa.Fmt Go.Proofs.Ythppkdbelmolbaa.Awake7 Go.Proofs.Ythppkdbelmolbaa.FunQ Go.Proofs.Ythppkdbelmolbaa.FunN Go.Proofs.Ythppkdbelmolbaa.FunP
set_option linter.unusedVariables false
set_option linter.unusedSimpArgs false
namespace ClockTextsW
set_option maxHeartbeats 8000000 in
set_option maxRecDepth 100000 in
theorem no (a : Int) (w : World) (h : ¬ Ok a) :
    Calls Try.prog 6 #[.int .i64 a] w fun e w' => e = .returned (.bool true) ∧ Below w.heap.size w w' := by
  have HR := Lib.hid (cRight_no h)
  have HF : Hid (trystref01_Right.f a = some false) := Lib.hid (cRight_no h)
  have HY := Lib.hid (cDay_no h)
  have HN := Lib.hid (rDate_no 40 0 (by unfold In; omega))
  clear h
  go_enter Try.func6, Try.ntmps6
  go_wp2_with fail
  refine (awake _).mono ?_
  rintro e wA ⟨rfl, hA⟩
  go_wp2_with fail
  refine (format_no a _ HR.out).mono ?_
  rintro e w1 ⟨rfl, hB1⟩
  have B1 := Lib.hid (below_then hA hA.size hB1)
  clear hA hB1
  go_wp2_with fail
  refine (clock_Day.calls a _ _ HY.out).mono ?_
  rintro e w' ⟨rfl, ⟨n3, rfl⟩⟩
  go_wp2_with fail
  refine (date_no 40 0 _ _ _ _ HN.out).mono ?_
  rintro e w2 ⟨rfl, hB2⟩
  have C1 := pw_below_drewN B1.out n3
  have B2 := Lib.hid (below_then C1 C1.size hB2)
  clear C1 hB2 B1
  go_wp2_with fail
  refine (trystref01_Right.calls a _ _ HF.out).mono ?_
  rintro e w' ⟨rfl, ⟨n1, rfl⟩⟩
  go_wp2
  go_ret
  exact ⟨rfl, by repeat (with_reducible first | exact B2.out | apply pw_below_drewN | apply below_alloc)⟩
theorem take8 (y m d s : Int) : (⟨(timeBytes y m d s).toArray⟩ : ByteArray).extract 0 8 = ⟨(dateBytes y m d).toArray⟩ := by
  rw [ex]; rfl
theorem tsize (y m d s : Int) : (⟨(timeBytes y m d s).toArray⟩ : ByteArray).size = 15 := by rw [sz]; rfl
set_option maxHeartbeats 8000000 in
set_option maxRecDepth 100000 in
theorem yes (k : Nat) (a day y m d s : Int) (S T : ByteArray) (w : World) (ha : 86400 ≤ a) (ha' : a < 315537984000) (hday : a / 86400 = day) (hsb : 0 ≤ s ∧ s < 86400)
    (hy : 0 ≤ y) (hy' : y ≤ 9999) (hm : 0 ≤ m) (hm' : m ≤ 99) (hd : 0 ≤ d) (hd' : d ≤ 99)
    (hS' : S = ⟨(timeBytes y m d s).toArray⟩) (hT' : T = ⟨(dateBytes y m d).toArray⟩)
    (hR : clock_Right.f a = some true) (hY : clock_Day.f a = some day) (hD : rata_Date.f k day = some (y, m, d, 0)) (hS : clock_Second.f a = some s)
    (hP : clock_Parse.f k S = some (a, 0)) (hQ : clock_ParseDate.f k T = some (day, 0)) (hZ : trystref01_Seconds.f k a = some S) :
    Calls Try.prog 6 #[.int .i64 a] w fun e w' => e = .returned (.bool true) ∧ Below w.heap.size w w' := by
  have fF := Lib.hid (fun W => format_yes k a day y m d s W hR hY hD hS hsb.1 hsb.2 hy hy' hm hm' hd hd')
  have fD := Lib.hid (fun W => date_yes k day y m d W hD hy hy' hm hm' hd hd')
  rw [← hS'] at fF
  rw [← hT'] at fD
  have z8 : S.extract 0 8 = T := by rw [hS', hT', take8]
  have z15 : S.size = 15 := by rw [hS', tsize]
  have HF : Hid (trystref01_Right.f a = some true) := Lib.hid hR
  have HY := Lib.hid hY; have HP := Lib.hid hP; have HQ := Lib.hid hQ; have HZ := Lib.hid hZ
  clear hR hY hD hS hP hQ hZ hS' hT'
  go_enter Try.func6, Try.ntmps6
  go_wp2_with fail
  refine (awake _).mono ?_
  rintro e wA ⟨rfl, hA⟩
  go_wp2_with fail
  refine (fF.out _).mono ?_
  rintro e w1 ⟨rfl, hB1⟩
  have B1 := Lib.hid (below_then hA hA.size hB1)
  clear hA hB1
  go_wp2_with fail
  refine (clock_Day.calls a _ _ HY.out).mono ?_
  rintro e w' ⟨rfl, ⟨n3, rfl⟩⟩
  go_wp2_with fail
  refine (fD.out _).mono ?_
  rintro e w2 ⟨rfl, hB2⟩
  have C1 := pw_below_drewN B1.out n3
  have B2 := Lib.hid (below_then C1 C1.size hB2)
  clear C1 hB2 B1
  go_wp2_with fail
  refine (trystref01_Right.calls a _ _ HF.out).mono ?_
  rintro e w' ⟨rfl, ⟨n1, rfl⟩⟩
  go_wp2_with fail
  refine (clock_Parse.calls k S _ _ _ HP.out).mono ?_
  rintro e w3 ⟨rfl, hB3⟩
  have C2 := pw_below_drewN B2.out n1
  have B3 := Lib.hid (below_then C2 C2.size hB3)
  clear C2 hB3 B2
  go_wp2_with fail
  refine (clock_ParseDate.calls k T _ _ _ HQ.out).mono ?_
  rintro e w4 ⟨rfl, hB4⟩
  have B4 := Lib.hid (below_then B3.out B3.out.size hB4)
  clear hB4 B3
  go_wp2_with fail
  refine (trystref01_Seconds.calls k a _ _ HZ.out).mono ?_
  rintro e w5 ⟨rfl, hB5⟩
  have B5 := Lib.hid (below_then B4.out B4.out.size hB5)
  clear hB5 B4
  go_wp2
  go_ret
  exact ⟨rfl, by repeat (with_reducible first | exact B5.out | apply pw_below_drewN | apply below_alloc)⟩
end ClockTextsW
theorem ClockTexts_calls (a : Int) (w : World) (wf : (Lit.int .i64 a).wf = true) :
    Calls Try.prog 6 #[.int .i64 a] w fun e w' => e = .returned (.bool true) ∧ Below w.heap.size w w' := by
  by_cases h : Ok a
  · have hi := ok_in h
    have hy := yr_In hi
    obtain ⟨m, d, e, hd, e', hz⟩ := fSeconds 200 (by omega) a h
    have hr := Is.right hd hy.1 hy.2
    have hdl := dim_lo (lp (yr (a / 86400))) m (lp_01 _) hd.m1 hd.m2
    have q1 := hd.m1; have q2 := hd.m2; have q3 := hd.d1; have q4 := hd.d2
    obtain ⟨h1, h2⟩ := h
    have hP := pTimeOf 200 (by omega) _ _ _ (a % 86400) hr (by omega) (by omega)
    have hQ := pDateOf 200 (by omega) _ _ _ hr
    rw [← hd.e] at hP hQ
    rw [show 86400 * (a / 86400) + a % 86400 = a by omega] at hP
    exact ClockTextsW.yes 200 a _ _ m d _ _ _ w h1 h2 rfl ⟨by omega, by omega⟩ (by omega) (by omega) (by omega) (by omega) (by omega) (by omega) rfl rfl (cRight_yes ⟨h1, h2⟩) (cDay_yes ⟨h1, h2⟩) e (cSecond_yes ⟨h1, h2⟩) hP hQ hz
  · exact ClockTextsW.no a w h
end Go.Proofs.Ythppkdbelmolbaa.Pure
