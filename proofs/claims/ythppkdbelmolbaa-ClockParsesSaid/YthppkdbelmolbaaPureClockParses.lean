/- For every string, Parse and ParseDate return the specified results: with no condition. -/
import Derived.Test.YthppkdbelmolbaaFunP
import Derived.Test.YthppkdbelmolbaaFunD
import Derived.Test.YthppkdbelmolbaaArrEq
import Derived.Lib.Hide
namespace Go.Proofs.Ythppkdbelmolbaa.Pure
open Go.RowKit Go.Proofs.YthppkdbelmolbaaW.PrintWords Go.Proofs.YthppkdbelmolbaaW.PrintLast Go.Proofs.Ythppkdbelmolbaa.Q Go.Proofs.Ythppkdbelmolbaa.Cal Go.Proofs.Ythppkdbelmolbaa.FunA Go.Proofs.Ythppkdbelmolbaa.FunB Go.Proofs.Ythppkdbelmolbaa.FunC Go.Proofs.Ythppkdbelmolbaa.FunD Go.Proofs.Ythppkdbelmolbaa.Fmt Go.Proofs.Ythppkdbelmolbaa.Awake7 Go.Proofs.Ythppkdbelmolbaa.FunQ Go.Proofs.Ythppkdbelmolbaa.FunN Go.Proofs.Ythppkdbelmolbaa.FunP
set_option linter.unusedVariables false
set_option linter.unusedSimpArgs false
namespace ClockParsesW
set_option maxHeartbeats 8000000 in
set_option maxRecDepth 100000 in
theorem none (k : Nat) (S : ByteArray) (w : World) (hP : clock_Parse.f k S = some (0, 7)) (hQ : clock_ParseDate.f k S = some (0, 7)) :
    Calls Try.prog 7 #[.string S] w fun e w' => e = .returned (.bool true) ∧ Below w.heap.size w w' := by
  have HP := Lib.hid hP; have HQ := Lib.hid hQ
  clear hP hQ
  go_enter Try.func7, Try.ntmps7
  go_wp2_with fail
  refine (awake _).mono ?_
  rintro e wA ⟨rfl, hA⟩
  go_wp2_with fail
  refine (clock_Parse.calls k S _ _ _ HP.out).mono ?_
  rintro e w3 ⟨rfl, hB3⟩
  have B3 := Lib.hid (below_then hA hA.size hB3)
  clear hB3 hA
  go_wp2_with fail
  refine (clock_ParseDate.calls k S _ _ _ HQ.out).mono ?_
  rintro e w4 ⟨rfl, hB4⟩
  have B4 := Lib.hid (below_then B3.out B3.out.size hB4)
  clear hB4 B3
  go_wp2
  go_ret
  exact ⟨rfl, by repeat (with_reducible first | exact B4.out | apply pw_below_drewN | apply below_alloc)⟩
set_option maxHeartbeats 8000000 in
set_option maxRecDepth 100000 in
theorem time (k : Nat) (S : ByteArray) (n : Int) (w : World) (hP : clock_Parse.f k S = some (n, 0)) (hQ : clock_ParseDate.f k S = some (0, 7)) (hR : clock_Right.f n = some true) (hZ : trystref01_Seconds.f k n = some S) :
    Calls Try.prog 7 #[.string S] w fun e w' => e = .returned (.bool true) ∧ Below w.heap.size w w' := by
  have HP := Lib.hid hP; have HQ := Lib.hid hQ
  have HF : Hid (trystref01_Right.f n = some true) := Lib.hid hR
  have HZ := Lib.hid hZ
  clear hP hQ hR hZ
  go_enter Try.func7, Try.ntmps7
  go_wp2_with fail
  refine (awake _).mono ?_
  rintro e wA ⟨rfl, hA⟩
  go_wp2_with fail
  refine (clock_Parse.calls k S _ _ _ HP.out).mono ?_
  rintro e w3 ⟨rfl, hB3⟩
  have B3 := Lib.hid (below_then hA hA.size hB3)
  clear hB3 hA
  go_wp2_with fail
  refine (clock_ParseDate.calls k S _ _ _ HQ.out).mono ?_
  rintro e w4 ⟨rfl, hB4⟩
  have B4 := Lib.hid (below_then B3.out B3.out.size hB4)
  clear hB4 B3
  go_wp2_with fail
  refine (trystref01_Right.calls n _ _ HF.out).mono ?_
  rintro e w' ⟨rfl, ⟨n1, rfl⟩⟩
  go_wp2_with fail
  refine (trystref01_Seconds.calls k n _ _ HZ.out).mono ?_
  rintro e w5 ⟨rfl, hB5⟩
  have C := pw_below_drewN B4.out n1
  have B5 := Lib.hid (below_then C C.size hB5)
  clear hB5 B4 C
  go_wp2
  go_ret
  exact ⟨rfl, by repeat (with_reducible first | exact B5.out | apply pw_below_drewN | apply below_alloc)⟩
set_option maxHeartbeats 8000000 in
set_option maxRecDepth 100000 in
theorem date (k : Nat) (S T : ByteArray) (day : Int) (w : World) (h1 : 1 ≤ day) (h2 : day ≤ 3652059) (hP : clock_Parse.f k S = some (0, 7)) (hQ : clock_ParseDate.f k S = some (day, 0)) (hR : trystref01_In.f day = some true) (hZ : trystref01_Seconds.f k (86400 * day) = some T) (z15 : T.size = 15) (z8 : T.extract 0 8 = S) :
    Calls Try.prog 7 #[.string S] w fun e w' => e = .returned (.bool true) ∧ Below w.heap.size w w' := by
  have HP := Lib.hid hP; have HQ := Lib.hid hQ
  have HF := Lib.hid hR
  have HZ := Lib.hid hZ
  clear hP hQ hR hZ
  have em : IntKind.i64.wrap (86400 * day) = 86400 * day := IntWalk.i64_in _ (by omega)
  go_enter Try.func7, Try.ntmps7
  go_wp2_with fail
  refine (awake _).mono ?_
  rintro e wA ⟨rfl, hA⟩
  go_wp2_with fail
  refine (clock_Parse.calls k S _ _ _ HP.out).mono ?_
  rintro e w3 ⟨rfl, hB3⟩
  have B3 := Lib.hid (below_then hA hA.size hB3)
  clear hB3 hA
  go_wp2_with fail
  refine (clock_ParseDate.calls k S _ _ _ HQ.out).mono ?_
  rintro e w4 ⟨rfl, hB4⟩
  have B4 := Lib.hid (below_then B3.out B3.out.size hB4)
  clear hB4 B3
  go_wp2_with fail
  refine (trystref01_In.calls day _ _ HF.out).mono ?_
  rintro e w' ⟨rfl, ⟨n1, rfl⟩⟩
  go_wp2_with fail
  refine (trystref01_Seconds.calls k (86400 * day) _ _ HZ.out).mono ?_
  rintro e w5 ⟨rfl, hB5⟩
  have C := pw_below_drewN B4.out n1
  have B5 := Lib.hid (below_then C C.size hB5)
  clear hB5 B4 C
  go_wp2
  go_ret
  exact ⟨rfl, by repeat (with_reducible first | exact B5.out | apply pw_below_drewN | apply below_alloc)⟩
theorem take8 (y m d s : Int) : (⟨(timeBytes y m d s).toArray⟩ : ByteArray).extract 0 8 = ⟨(dateBytes y m d).toArray⟩ := by
  rw [ex]; rfl
theorem tsize (y m d s : Int) : (⟨(timeBytes y m d s).toArray⟩ : ByteArray).size = 15 := by rw [sz]; rfl
theorem dsize (y m d : Int) : (⟨(dateBytes y m d).toArray⟩ : ByteArray).size = 8 := by rw [sz]; rfl
/-- What the reference writes of the seconds of a right date and time. -/
theorem sec (k : Nat) (hk : 200 ≤ k) {y m d t : Int} (hr : Right y m d) (ht : 0 ≤ t) (ht' : t < 86400) :
    Ok (86400 * (ah y + cum (lp y) m + d) + t) ∧ trystref01_Seconds.f k (86400 * (ah y + cum (lp y) m + d) + t) = some ⟨(timeBytes y m d t).toArray⟩ := by
  have hi := right_in hr
  have hm := dim_pos (lp y) m (by have := hr.2.2; omega)
  have hs : Is ah lp y m d (ah y + cum (lp y) m + d) := ⟨hm.1, hm.2, hr.2.2.1, hr.2.2.2, rfl⟩
  generalize ah y + cum (lp y) m + d = day at hi hs
  have ho : Ok (86400 * day + t) := by obtain ⟨h1, h2⟩ := hi; exact ⟨by omega, by omega⟩
  refine ⟨ho, ?_⟩
  obtain ⟨m', d', e, hd, e', hz⟩ := fSeconds k hk _ ho
  rw [show (86400 * day + t) / 86400 = day by omega, show (86400 * day + t) % 86400 = t by omega] at hz
  rw [show (86400 * day + t) / 86400 = day by omega] at hd
  obtain ⟨r1, r2, r3⟩ := Is.one greg hd hs
  rw [r1, r2, r3] at hz
  exact hz
end ClockParsesW
theorem ClockParses_calls (S : ByteArray) (w : World) (wf : S.size ≤ maxLen) :
    Calls Try.prog 7 #[.string S] w fun e w' => e = .returned (.bool true) ∧ Below w.heap.size w w' := by
  rcases pTime 200 (by omega) S with hP | ⟨y, m, d, t, hr, ht, ht', hS, hP⟩
  · rcases pDate 200 (by omega) S with hQ | ⟨y, m, d, hr, hS, hQ⟩
    · exact ClockParsesW.none 200 S w hP hQ
    · obtain ⟨ho, hz⟩ := ClockParsesW.sec 200 (by omega) (t := 0) hr (by omega) (by omega)
      have hi := right_in hr
      rw [Int.add_zero] at hz
      exact ClockParsesW.date 200 S _ _ w hi.1 hi.2 hP hQ (by unfold trystref01_In.f; rw [if_pos hi.1, decide_eq_true hi.2]) hz (ClockParsesW.tsize _ _ _ _) ((ClockParsesW.take8 _ _ _ _).trans hS.symm)
  · rcases pDate 200 (by omega) S with hQ | ⟨y', m', d', hr', hS', hQ⟩
    · obtain ⟨ho, hz⟩ := ClockParsesW.sec 200 (by omega) hr ht ht'
      exact ClockParsesW.time 200 S _ w hP hQ (cRight_yes ho) (hS ▸ hz)
    · have h1 := ClockParsesW.tsize y m d t
      have h2 := ClockParsesW.dsize y' m' d'
      rw [← hS] at h1
      rw [← hS'] at h2
      omega
end Go.Proofs.Ythppkdbelmolbaa.Pure
