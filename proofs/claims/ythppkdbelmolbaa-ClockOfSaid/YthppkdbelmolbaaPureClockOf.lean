/- Of every date and time of day is the specified seconds or an error: for all whole numbers of 64 bits, with no condition. -/
import Derived.Test.YthppkdbelmolbaaFunQ
import Derived.Test.YthppkdbelmolbaaFunE
import Derived.Lib.Hide
namespace Go.Proofs.Ythppkdbelmolbaa.Pure
open Go.RowKit Go.Proofs.YthppkdbelmolbaaW.PrintWords Go.Proofs.YthppkdbelmolbaaW.PrintLast Go.Proofs.Ythppkdbelmolbaa.Q Go.Proofs.Ythppkdbelmolbaa.Cal Go.Proofs.Ythppkdbelmolbaa.FunA Go.Proofs.Ythppkdbelmolbaa.FunB Go.Proofs.Ythppkdbelmolbaa.FunC Go.Proofs.Ythppkdbelmolbaa.FunE Go.Proofs.Ythppkdbelmolbaa.Awake7 Go.Proofs.Ythppkdbelmolbaa.FunQ
set_option linter.unusedVariables false
set_option linter.unusedSimpArgs false
namespace ClockOfW
/-- How the tests on the time of the day, and on the second, come out. -/
def CT (p0 p1 p2 day n e : Int) : Prop := ((decide (0 ≤ p0) = true ∧ decide (p0 < 24) = true ∧ decide (0 ≤ p1) = true ∧ decide (p1 < 60) = true ∧ decide (0 ≤ p2) = true ∧ decide (p2 < 60) = true) ∧ (0 ≤ p0 ∧ p0 < 24 ∧ 0 ≤ p1 ∧ p1 < 60 ∧ 0 ≤ p2 ∧ p2 < 60) ∧ e = 0 ∧ 86400 * day + (3600 * p0 + 60 * p1 + p2) = n) ∨ (e = 2 ∧ n = 0 ∧ ((decide (0 ≤ p0) = false) ∨ (decide (0 ≤ p0) = true ∧ decide (p0 < 24) = false) ∨ (decide (0 ≤ p0) = true ∧ decide (p0 < 24) = true ∧ decide (0 ≤ p1) = false) ∨ (decide (0 ≤ p0) = true ∧ decide (p0 < 24) = true ∧ decide (0 ≤ p1) = true ∧ decide (p1 < 60) = false) ∨ (decide (0 ≤ p0) = true ∧ decide (p0 < 24) = true ∧ decide (0 ≤ p1) = true ∧ decide (p1 < 60) = true ∧ decide (0 ≤ p2) = false) ∨ (decide (0 ≤ p0) = true ∧ decide (p0 < 24) = true ∧ decide (0 ≤ p1) = true ∧ decide (p1 < 60) = true ∧ decide (0 ≤ p2) = true ∧ decide (p2 < 60) = false)))
def CS (s day r g : Int) : Prop := (decide (0 ≤ s) = true ∧ decide (s < 86400) = true ∧ (0 ≤ s ∧ s < 86400) ∧ g = 0 ∧ 86400 * day + s = r) ∨ (g = 2 ∧ r = 0 ∧ (decide (0 ≤ s) = false ∨ (decide (0 ≤ s) = true ∧ decide (s < 86400) = false)))
set_option maxHeartbeats 16000000 in
set_option maxRecDepth 100000 in
theorem walk_no (k : Nat) (y m d p0 p1 p2 s : Int) (w : World)
    (hO : clock_Of.f k y m d p0 p1 p2 = some (0, 2)) (hD : trystref01_Day.f k 0 y m d = some (0, 2)) (hA : clock_At.f 0 s = some (0, 2)) :
    Calls Try.prog 5 #[.agg #[.int .i64 y, .int .i64 m, .int .i64 d], .agg #[.int .i64 p0, .int .i64 p1, .int .i64 p2], .int .i64 s] w fun e w' => e = .returned (.bool true) ∧ Below w.heap.size w w' := by
  have HO := Lib.hid hO; clear hO
  have HD := Lib.hid hD; clear hD
  have HA := Lib.hid hA; clear hA
  go_enter Try.func5, Try.ntmps5
  go_wp2_with fail
  refine (awake _).mono ?_
  rintro e wA ⟨rfl, hA⟩
  have i0 : wA.cell? ⟨w.heap.size, 0, none⟩ = some (.int .i64 y) := pw_cell_below hA (by go_simp)
  have i1 : wA.cell? ⟨w.heap.size, 1, none⟩ = some (.int .i64 m) := pw_cell_below hA (by go_simp)
  have i2 : wA.cell? ⟨w.heap.size, 2, none⟩ = some (.int .i64 d) := pw_cell_below hA (by go_simp)
  have ip0 : wA.cell? ⟨w.heap.size + 1, 0, none⟩ = some (.int .i64 p0) := pw_cell_below hA (by go_simp)
  have ip1 : wA.cell? ⟨w.heap.size + 1, 1, none⟩ = some (.int .i64 p1) := pw_cell_below hA (by go_simp)
  have ip2 : wA.cell? ⟨w.heap.size + 1, 2, none⟩ = some (.int .i64 p2) := pw_cell_below hA (by go_simp)
  go_wp2_with fail
  refine (clock_Of.calls k y m d p0 p1 p2 _ _ _ HO.out).mono ?_
  rintro e w1 ⟨rfl, hB1⟩
  have j0 : w1.cell? ⟨w.heap.size, 0, none⟩ = some (.int .i64 y) := pw_cell_below hB1 i0
  have j1 : w1.cell? ⟨w.heap.size, 1, none⟩ = some (.int .i64 m) := pw_cell_below hB1 i1
  have j2 : w1.cell? ⟨w.heap.size, 2, none⟩ = some (.int .i64 d) := pw_cell_below hB1 i2
  have jp0 : w1.cell? ⟨w.heap.size + 1, 0, none⟩ = some (.int .i64 p0) := pw_cell_below hB1 ip0
  have jp1 : w1.cell? ⟨w.heap.size + 1, 1, none⟩ = some (.int .i64 p1) := pw_cell_below hB1 ip1
  have jp2 : w1.cell? ⟨w.heap.size + 1, 2, none⟩ = some (.int .i64 p2) := pw_cell_below hB1 ip2
  clear i0 i1 i2 ip0 ip1 ip2
  go_wp2_with fail
  refine (trystref01_Day.calls k 0 y m d _ _ _ HD.out).mono ?_
  rintro e w2 ⟨rfl, hB2⟩
  have i0 : w2.cell? ⟨w.heap.size, 0, none⟩ = some (.int .i64 y) := pw_cell_below hB2 j0
  have i1 : w2.cell? ⟨w.heap.size, 1, none⟩ = some (.int .i64 m) := pw_cell_below hB2 j1
  have i2 : w2.cell? ⟨w.heap.size, 2, none⟩ = some (.int .i64 d) := pw_cell_below hB2 j2
  have ip0 : w2.cell? ⟨w.heap.size + 1, 0, none⟩ = some (.int .i64 p0) := pw_cell_below hB2 jp0
  have ip1 : w2.cell? ⟨w.heap.size + 1, 1, none⟩ = some (.int .i64 p1) := pw_cell_below hB2 jp1
  have ip2 : w2.cell? ⟨w.heap.size + 1, 2, none⟩ = some (.int .i64 p2) := pw_cell_below hB2 jp2
  clear j0 j1 j2 jp0 jp1 jp2 i0 i1 i2
  have B0 := below_alloc (below_alloc (Below.refl w.heap.size w) (.cells #[.int .i64 y, .int .i64 m, .int .i64 d] 29)) (.cells #[.int .i64 p0, .int .i64 p1, .int .i64 p2] 30)
  have B1 := below_then B0 B0.size hA
  have B2 := below_then B1 B1.size hB1
  have B3 := Lib.hid (below_then B2 B2.size hB2)
  clear B0 B1 B2 hA hB1 hB2
  go_wp2_with fail
  refine (clock_At.calls _ s _ _ _ HA.out).mono ?_
  rintro e w3 ⟨rfl, ⟨n1, rfl⟩⟩
  go_wp2
  go_ret
  exact ⟨rfl, by repeat (with_reducible first | exact B3.out | apply pw_below_drewN)⟩
set_option maxHeartbeats 16000000 in
set_option maxRecDepth 100000 in
theorem walk_time (k : Nat) (y m d p0 p1 p2 s n e day r g : Int) (w : World)
    (hO : clock_Of.f k y m d p0 p1 p2 = some (n, e)) (hD : trystref01_Day.f k 0 y m d = some (day, 0)) (hA : clock_At.f day s = some (r, g)) (hd : 1 ≤ day ∧ day ≤ 3652059) (ct : (decide (0 ≤ p0) = true ∧ decide (p0 < 24) = true ∧ decide (0 ≤ p1) = true ∧ decide (p1 < 60) = true ∧ decide (0 ≤ p2) = true ∧ decide (p2 < 60) = true) ∧ (0 ≤ p0 ∧ p0 < 24 ∧ 0 ≤ p1 ∧ p1 < 60 ∧ 0 ≤ p2 ∧ p2 < 60) ∧ e = 0 ∧ 86400 * day + (3600 * p0 + 60 * p1 + p2) = n) (cs : CS s day r g) :
    Calls Try.prog 5 #[.agg #[.int .i64 y, .int .i64 m, .int .i64 d], .agg #[.int .i64 p0, .int .i64 p1, .int .i64 p2], .int .i64 s] w fun e w' => e = .returned (.bool true) ∧ Below w.heap.size w w' := by
  obtain ⟨hd1, hd2⟩ := hd
  unfold CS at cs
  rcases cs with ⟨s1, s2, ⟨sb1, sb2⟩, rfl, rfl⟩ | ⟨rfl, rfl, s1 | ⟨s1, s2⟩⟩
  all_goals
    obtain ⟨⟨t1, t2, t3, t4, t5, t6⟩, ⟨u1, u2, u3, u4, u5, u6⟩, rfl, rfl⟩ := ct
  all_goals
    have HO := Lib.hid hO; clear hO
    have HD := Lib.hid hD; clear hD
    have HA := Lib.hid hA; clear hA
    go_enter Try.func5, Try.ntmps5
    go_wp2_with fail
    refine (awake _).mono ?_
    rintro e wA ⟨rfl, hA⟩
    have i0 : wA.cell? ⟨w.heap.size, 0, none⟩ = some (.int .i64 y) := pw_cell_below hA (by go_simp)
    have i1 : wA.cell? ⟨w.heap.size, 1, none⟩ = some (.int .i64 m) := pw_cell_below hA (by go_simp)
    have i2 : wA.cell? ⟨w.heap.size, 2, none⟩ = some (.int .i64 d) := pw_cell_below hA (by go_simp)
    have ip0 : wA.cell? ⟨w.heap.size + 1, 0, none⟩ = some (.int .i64 p0) := pw_cell_below hA (by go_simp)
    have ip1 : wA.cell? ⟨w.heap.size + 1, 1, none⟩ = some (.int .i64 p1) := pw_cell_below hA (by go_simp)
    have ip2 : wA.cell? ⟨w.heap.size + 1, 2, none⟩ = some (.int .i64 p2) := pw_cell_below hA (by go_simp)
    go_wp2_with fail
    refine (clock_Of.calls k y m d p0 p1 p2 _ _ _ HO.out).mono ?_
    rintro e w1 ⟨rfl, hB1⟩
    have j0 : w1.cell? ⟨w.heap.size, 0, none⟩ = some (.int .i64 y) := pw_cell_below hB1 i0
    have j1 : w1.cell? ⟨w.heap.size, 1, none⟩ = some (.int .i64 m) := pw_cell_below hB1 i1
    have j2 : w1.cell? ⟨w.heap.size, 2, none⟩ = some (.int .i64 d) := pw_cell_below hB1 i2
    have jp0 : w1.cell? ⟨w.heap.size + 1, 0, none⟩ = some (.int .i64 p0) := pw_cell_below hB1 ip0
    have jp1 : w1.cell? ⟨w.heap.size + 1, 1, none⟩ = some (.int .i64 p1) := pw_cell_below hB1 ip1
    have jp2 : w1.cell? ⟨w.heap.size + 1, 2, none⟩ = some (.int .i64 p2) := pw_cell_below hB1 ip2
    clear i0 i1 i2 ip0 ip1 ip2
    go_wp2_with fail
    refine (trystref01_Day.calls k 0 y m d _ _ _ HD.out).mono ?_
    rintro e w2 ⟨rfl, hB2⟩
    have i0 : w2.cell? ⟨w.heap.size, 0, none⟩ = some (.int .i64 y) := pw_cell_below hB2 j0
    have i1 : w2.cell? ⟨w.heap.size, 1, none⟩ = some (.int .i64 m) := pw_cell_below hB2 j1
    have i2 : w2.cell? ⟨w.heap.size, 2, none⟩ = some (.int .i64 d) := pw_cell_below hB2 j2
    have ip0 : w2.cell? ⟨w.heap.size + 1, 0, none⟩ = some (.int .i64 p0) := pw_cell_below hB2 jp0
    have ip1 : w2.cell? ⟨w.heap.size + 1, 1, none⟩ = some (.int .i64 p1) := pw_cell_below hB2 jp1
    have ip2 : w2.cell? ⟨w.heap.size + 1, 2, none⟩ = some (.int .i64 p2) := pw_cell_below hB2 jp2
    clear j0 j1 j2 jp0 jp1 jp2 i0 i1 i2
    have B0 := below_alloc (below_alloc (Below.refl w.heap.size w) (.cells #[.int .i64 y, .int .i64 m, .int .i64 d] 29)) (.cells #[.int .i64 p0, .int .i64 p1, .int .i64 p2] 30)
    have B1 := below_then B0 B0.size hA
    have B2 := below_then B1 B1.size hB1
    have B3 := Lib.hid (below_then B2 B2.size hB2)
    clear B0 B1 B2 hA hB1 hB2
    go_wp2_with fail
    refine (clock_At.calls _ s _ _ _ HA.out).mono ?_
    rintro e w3 ⟨rfl, ⟨n1, rfl⟩⟩
    go_wp2
    go_ret
    exact ⟨rfl, by repeat (with_reducible first | exact B3.out | apply pw_below_drewN)⟩
set_option maxHeartbeats 16000000 in
set_option maxRecDepth 100000 in
theorem walk_fail0 (k : Nat) (y m d p0 p1 p2 s n e day r g : Int) (w : World)
    (hO : clock_Of.f k y m d p0 p1 p2 = some (n, e)) (hD : trystref01_Day.f k 0 y m d = some (day, 0)) (hA : clock_At.f day s = some (r, g)) (hd : 1 ≤ day ∧ day ≤ 3652059) (ct : e = 2 ∧ n = 0 ∧ (decide (0 ≤ p0) = false)) (cs : CS s day r g) :
    Calls Try.prog 5 #[.agg #[.int .i64 y, .int .i64 m, .int .i64 d], .agg #[.int .i64 p0, .int .i64 p1, .int .i64 p2], .int .i64 s] w fun e w' => e = .returned (.bool true) ∧ Below w.heap.size w w' := by
  obtain ⟨hd1, hd2⟩ := hd
  unfold CS at cs
  rcases cs with ⟨s1, s2, ⟨sb1, sb2⟩, rfl, rfl⟩ | ⟨rfl, rfl, s1 | ⟨s1, s2⟩⟩
  all_goals
    obtain ⟨rfl, rfl, t0⟩ := ct
  all_goals
    have HO := Lib.hid hO; clear hO
    have HD := Lib.hid hD; clear hD
    have HA := Lib.hid hA; clear hA
    go_enter Try.func5, Try.ntmps5
    go_wp2_with fail
    refine (awake _).mono ?_
    rintro e wA ⟨rfl, hA⟩
    have i0 : wA.cell? ⟨w.heap.size, 0, none⟩ = some (.int .i64 y) := pw_cell_below hA (by go_simp)
    have i1 : wA.cell? ⟨w.heap.size, 1, none⟩ = some (.int .i64 m) := pw_cell_below hA (by go_simp)
    have i2 : wA.cell? ⟨w.heap.size, 2, none⟩ = some (.int .i64 d) := pw_cell_below hA (by go_simp)
    have ip0 : wA.cell? ⟨w.heap.size + 1, 0, none⟩ = some (.int .i64 p0) := pw_cell_below hA (by go_simp)
    have ip1 : wA.cell? ⟨w.heap.size + 1, 1, none⟩ = some (.int .i64 p1) := pw_cell_below hA (by go_simp)
    have ip2 : wA.cell? ⟨w.heap.size + 1, 2, none⟩ = some (.int .i64 p2) := pw_cell_below hA (by go_simp)
    go_wp2_with fail
    refine (clock_Of.calls k y m d p0 p1 p2 _ _ _ HO.out).mono ?_
    rintro e w1 ⟨rfl, hB1⟩
    have j0 : w1.cell? ⟨w.heap.size, 0, none⟩ = some (.int .i64 y) := pw_cell_below hB1 i0
    have j1 : w1.cell? ⟨w.heap.size, 1, none⟩ = some (.int .i64 m) := pw_cell_below hB1 i1
    have j2 : w1.cell? ⟨w.heap.size, 2, none⟩ = some (.int .i64 d) := pw_cell_below hB1 i2
    have jp0 : w1.cell? ⟨w.heap.size + 1, 0, none⟩ = some (.int .i64 p0) := pw_cell_below hB1 ip0
    have jp1 : w1.cell? ⟨w.heap.size + 1, 1, none⟩ = some (.int .i64 p1) := pw_cell_below hB1 ip1
    have jp2 : w1.cell? ⟨w.heap.size + 1, 2, none⟩ = some (.int .i64 p2) := pw_cell_below hB1 ip2
    clear i0 i1 i2 ip0 ip1 ip2
    go_wp2_with fail
    refine (trystref01_Day.calls k 0 y m d _ _ _ HD.out).mono ?_
    rintro e w2 ⟨rfl, hB2⟩
    have i0 : w2.cell? ⟨w.heap.size, 0, none⟩ = some (.int .i64 y) := pw_cell_below hB2 j0
    have i1 : w2.cell? ⟨w.heap.size, 1, none⟩ = some (.int .i64 m) := pw_cell_below hB2 j1
    have i2 : w2.cell? ⟨w.heap.size, 2, none⟩ = some (.int .i64 d) := pw_cell_below hB2 j2
    have ip0 : w2.cell? ⟨w.heap.size + 1, 0, none⟩ = some (.int .i64 p0) := pw_cell_below hB2 jp0
    have ip1 : w2.cell? ⟨w.heap.size + 1, 1, none⟩ = some (.int .i64 p1) := pw_cell_below hB2 jp1
    have ip2 : w2.cell? ⟨w.heap.size + 1, 2, none⟩ = some (.int .i64 p2) := pw_cell_below hB2 jp2
    clear j0 j1 j2 jp0 jp1 jp2 i0 i1 i2
    have B0 := below_alloc (below_alloc (Below.refl w.heap.size w) (.cells #[.int .i64 y, .int .i64 m, .int .i64 d] 29)) (.cells #[.int .i64 p0, .int .i64 p1, .int .i64 p2] 30)
    have B1 := below_then B0 B0.size hA
    have B2 := below_then B1 B1.size hB1
    have B3 := Lib.hid (below_then B2 B2.size hB2)
    clear B0 B1 B2 hA hB1 hB2
    go_wp2_with fail
    refine (clock_At.calls _ s _ _ _ HA.out).mono ?_
    rintro e w3 ⟨rfl, ⟨n1, rfl⟩⟩
    go_wp2
    go_ret
    exact ⟨rfl, by repeat (with_reducible first | exact B3.out | apply pw_below_drewN)⟩
set_option maxHeartbeats 16000000 in
set_option maxRecDepth 100000 in
theorem walk_fail1 (k : Nat) (y m d p0 p1 p2 s n e day r g : Int) (w : World)
    (hO : clock_Of.f k y m d p0 p1 p2 = some (n, e)) (hD : trystref01_Day.f k 0 y m d = some (day, 0)) (hA : clock_At.f day s = some (r, g)) (hd : 1 ≤ day ∧ day ≤ 3652059) (ct : e = 2 ∧ n = 0 ∧ (decide (0 ≤ p0) = true ∧ decide (p0 < 24) = false)) (cs : CS s day r g) :
    Calls Try.prog 5 #[.agg #[.int .i64 y, .int .i64 m, .int .i64 d], .agg #[.int .i64 p0, .int .i64 p1, .int .i64 p2], .int .i64 s] w fun e w' => e = .returned (.bool true) ∧ Below w.heap.size w w' := by
  obtain ⟨hd1, hd2⟩ := hd
  unfold CS at cs
  rcases cs with ⟨s1, s2, ⟨sb1, sb2⟩, rfl, rfl⟩ | ⟨rfl, rfl, s1 | ⟨s1, s2⟩⟩
  all_goals
    obtain ⟨rfl, rfl, t0, t1⟩ := ct
  all_goals
    have HO := Lib.hid hO; clear hO
    have HD := Lib.hid hD; clear hD
    have HA := Lib.hid hA; clear hA
    go_enter Try.func5, Try.ntmps5
    go_wp2_with fail
    refine (awake _).mono ?_
    rintro e wA ⟨rfl, hA⟩
    have i0 : wA.cell? ⟨w.heap.size, 0, none⟩ = some (.int .i64 y) := pw_cell_below hA (by go_simp)
    have i1 : wA.cell? ⟨w.heap.size, 1, none⟩ = some (.int .i64 m) := pw_cell_below hA (by go_simp)
    have i2 : wA.cell? ⟨w.heap.size, 2, none⟩ = some (.int .i64 d) := pw_cell_below hA (by go_simp)
    have ip0 : wA.cell? ⟨w.heap.size + 1, 0, none⟩ = some (.int .i64 p0) := pw_cell_below hA (by go_simp)
    have ip1 : wA.cell? ⟨w.heap.size + 1, 1, none⟩ = some (.int .i64 p1) := pw_cell_below hA (by go_simp)
    have ip2 : wA.cell? ⟨w.heap.size + 1, 2, none⟩ = some (.int .i64 p2) := pw_cell_below hA (by go_simp)
    go_wp2_with fail
    refine (clock_Of.calls k y m d p0 p1 p2 _ _ _ HO.out).mono ?_
    rintro e w1 ⟨rfl, hB1⟩
    have j0 : w1.cell? ⟨w.heap.size, 0, none⟩ = some (.int .i64 y) := pw_cell_below hB1 i0
    have j1 : w1.cell? ⟨w.heap.size, 1, none⟩ = some (.int .i64 m) := pw_cell_below hB1 i1
    have j2 : w1.cell? ⟨w.heap.size, 2, none⟩ = some (.int .i64 d) := pw_cell_below hB1 i2
    have jp0 : w1.cell? ⟨w.heap.size + 1, 0, none⟩ = some (.int .i64 p0) := pw_cell_below hB1 ip0
    have jp1 : w1.cell? ⟨w.heap.size + 1, 1, none⟩ = some (.int .i64 p1) := pw_cell_below hB1 ip1
    have jp2 : w1.cell? ⟨w.heap.size + 1, 2, none⟩ = some (.int .i64 p2) := pw_cell_below hB1 ip2
    clear i0 i1 i2 ip0 ip1 ip2
    go_wp2_with fail
    refine (trystref01_Day.calls k 0 y m d _ _ _ HD.out).mono ?_
    rintro e w2 ⟨rfl, hB2⟩
    have i0 : w2.cell? ⟨w.heap.size, 0, none⟩ = some (.int .i64 y) := pw_cell_below hB2 j0
    have i1 : w2.cell? ⟨w.heap.size, 1, none⟩ = some (.int .i64 m) := pw_cell_below hB2 j1
    have i2 : w2.cell? ⟨w.heap.size, 2, none⟩ = some (.int .i64 d) := pw_cell_below hB2 j2
    have ip0 : w2.cell? ⟨w.heap.size + 1, 0, none⟩ = some (.int .i64 p0) := pw_cell_below hB2 jp0
    have ip1 : w2.cell? ⟨w.heap.size + 1, 1, none⟩ = some (.int .i64 p1) := pw_cell_below hB2 jp1
    have ip2 : w2.cell? ⟨w.heap.size + 1, 2, none⟩ = some (.int .i64 p2) := pw_cell_below hB2 jp2
    clear j0 j1 j2 jp0 jp1 jp2 i0 i1 i2
    have B0 := below_alloc (below_alloc (Below.refl w.heap.size w) (.cells #[.int .i64 y, .int .i64 m, .int .i64 d] 29)) (.cells #[.int .i64 p0, .int .i64 p1, .int .i64 p2] 30)
    have B1 := below_then B0 B0.size hA
    have B2 := below_then B1 B1.size hB1
    have B3 := Lib.hid (below_then B2 B2.size hB2)
    clear B0 B1 B2 hA hB1 hB2
    go_wp2_with fail
    refine (clock_At.calls _ s _ _ _ HA.out).mono ?_
    rintro e w3 ⟨rfl, ⟨n1, rfl⟩⟩
    go_wp2
    go_ret
    exact ⟨rfl, by repeat (with_reducible first | exact B3.out | apply pw_below_drewN)⟩
set_option maxHeartbeats 16000000 in
set_option maxRecDepth 100000 in
theorem walk_fail2 (k : Nat) (y m d p0 p1 p2 s n e day r g : Int) (w : World)
    (hO : clock_Of.f k y m d p0 p1 p2 = some (n, e)) (hD : trystref01_Day.f k 0 y m d = some (day, 0)) (hA : clock_At.f day s = some (r, g)) (hd : 1 ≤ day ∧ day ≤ 3652059) (ct : e = 2 ∧ n = 0 ∧ (decide (0 ≤ p0) = true ∧ decide (p0 < 24) = true ∧ decide (0 ≤ p1) = false)) (cs : CS s day r g) :
    Calls Try.prog 5 #[.agg #[.int .i64 y, .int .i64 m, .int .i64 d], .agg #[.int .i64 p0, .int .i64 p1, .int .i64 p2], .int .i64 s] w fun e w' => e = .returned (.bool true) ∧ Below w.heap.size w w' := by
  obtain ⟨hd1, hd2⟩ := hd
  unfold CS at cs
  rcases cs with ⟨s1, s2, ⟨sb1, sb2⟩, rfl, rfl⟩ | ⟨rfl, rfl, s1 | ⟨s1, s2⟩⟩
  all_goals
    obtain ⟨rfl, rfl, t0, t1, t2⟩ := ct
  all_goals
    have HO := Lib.hid hO; clear hO
    have HD := Lib.hid hD; clear hD
    have HA := Lib.hid hA; clear hA
    go_enter Try.func5, Try.ntmps5
    go_wp2_with fail
    refine (awake _).mono ?_
    rintro e wA ⟨rfl, hA⟩
    have i0 : wA.cell? ⟨w.heap.size, 0, none⟩ = some (.int .i64 y) := pw_cell_below hA (by go_simp)
    have i1 : wA.cell? ⟨w.heap.size, 1, none⟩ = some (.int .i64 m) := pw_cell_below hA (by go_simp)
    have i2 : wA.cell? ⟨w.heap.size, 2, none⟩ = some (.int .i64 d) := pw_cell_below hA (by go_simp)
    have ip0 : wA.cell? ⟨w.heap.size + 1, 0, none⟩ = some (.int .i64 p0) := pw_cell_below hA (by go_simp)
    have ip1 : wA.cell? ⟨w.heap.size + 1, 1, none⟩ = some (.int .i64 p1) := pw_cell_below hA (by go_simp)
    have ip2 : wA.cell? ⟨w.heap.size + 1, 2, none⟩ = some (.int .i64 p2) := pw_cell_below hA (by go_simp)
    go_wp2_with fail
    refine (clock_Of.calls k y m d p0 p1 p2 _ _ _ HO.out).mono ?_
    rintro e w1 ⟨rfl, hB1⟩
    have j0 : w1.cell? ⟨w.heap.size, 0, none⟩ = some (.int .i64 y) := pw_cell_below hB1 i0
    have j1 : w1.cell? ⟨w.heap.size, 1, none⟩ = some (.int .i64 m) := pw_cell_below hB1 i1
    have j2 : w1.cell? ⟨w.heap.size, 2, none⟩ = some (.int .i64 d) := pw_cell_below hB1 i2
    have jp0 : w1.cell? ⟨w.heap.size + 1, 0, none⟩ = some (.int .i64 p0) := pw_cell_below hB1 ip0
    have jp1 : w1.cell? ⟨w.heap.size + 1, 1, none⟩ = some (.int .i64 p1) := pw_cell_below hB1 ip1
    have jp2 : w1.cell? ⟨w.heap.size + 1, 2, none⟩ = some (.int .i64 p2) := pw_cell_below hB1 ip2
    clear i0 i1 i2 ip0 ip1 ip2
    go_wp2_with fail
    refine (trystref01_Day.calls k 0 y m d _ _ _ HD.out).mono ?_
    rintro e w2 ⟨rfl, hB2⟩
    have i0 : w2.cell? ⟨w.heap.size, 0, none⟩ = some (.int .i64 y) := pw_cell_below hB2 j0
    have i1 : w2.cell? ⟨w.heap.size, 1, none⟩ = some (.int .i64 m) := pw_cell_below hB2 j1
    have i2 : w2.cell? ⟨w.heap.size, 2, none⟩ = some (.int .i64 d) := pw_cell_below hB2 j2
    have ip0 : w2.cell? ⟨w.heap.size + 1, 0, none⟩ = some (.int .i64 p0) := pw_cell_below hB2 jp0
    have ip1 : w2.cell? ⟨w.heap.size + 1, 1, none⟩ = some (.int .i64 p1) := pw_cell_below hB2 jp1
    have ip2 : w2.cell? ⟨w.heap.size + 1, 2, none⟩ = some (.int .i64 p2) := pw_cell_below hB2 jp2
    clear j0 j1 j2 jp0 jp1 jp2 i0 i1 i2
    have B0 := below_alloc (below_alloc (Below.refl w.heap.size w) (.cells #[.int .i64 y, .int .i64 m, .int .i64 d] 29)) (.cells #[.int .i64 p0, .int .i64 p1, .int .i64 p2] 30)
    have B1 := below_then B0 B0.size hA
    have B2 := below_then B1 B1.size hB1
    have B3 := Lib.hid (below_then B2 B2.size hB2)
    clear B0 B1 B2 hA hB1 hB2
    go_wp2_with fail
    refine (clock_At.calls _ s _ _ _ HA.out).mono ?_
    rintro e w3 ⟨rfl, ⟨n1, rfl⟩⟩
    go_wp2
    go_ret
    exact ⟨rfl, by repeat (with_reducible first | exact B3.out | apply pw_below_drewN)⟩
set_option maxHeartbeats 16000000 in
set_option maxRecDepth 100000 in
theorem walk_fail3 (k : Nat) (y m d p0 p1 p2 s n e day r g : Int) (w : World)
    (hO : clock_Of.f k y m d p0 p1 p2 = some (n, e)) (hD : trystref01_Day.f k 0 y m d = some (day, 0)) (hA : clock_At.f day s = some (r, g)) (hd : 1 ≤ day ∧ day ≤ 3652059) (ct : e = 2 ∧ n = 0 ∧ (decide (0 ≤ p0) = true ∧ decide (p0 < 24) = true ∧ decide (0 ≤ p1) = true ∧ decide (p1 < 60) = false)) (cs : CS s day r g) :
    Calls Try.prog 5 #[.agg #[.int .i64 y, .int .i64 m, .int .i64 d], .agg #[.int .i64 p0, .int .i64 p1, .int .i64 p2], .int .i64 s] w fun e w' => e = .returned (.bool true) ∧ Below w.heap.size w w' := by
  obtain ⟨hd1, hd2⟩ := hd
  unfold CS at cs
  rcases cs with ⟨s1, s2, ⟨sb1, sb2⟩, rfl, rfl⟩ | ⟨rfl, rfl, s1 | ⟨s1, s2⟩⟩
  all_goals
    obtain ⟨rfl, rfl, t0, t1, t2, t3⟩ := ct
  all_goals
    have HO := Lib.hid hO; clear hO
    have HD := Lib.hid hD; clear hD
    have HA := Lib.hid hA; clear hA
    go_enter Try.func5, Try.ntmps5
    go_wp2_with fail
    refine (awake _).mono ?_
    rintro e wA ⟨rfl, hA⟩
    have i0 : wA.cell? ⟨w.heap.size, 0, none⟩ = some (.int .i64 y) := pw_cell_below hA (by go_simp)
    have i1 : wA.cell? ⟨w.heap.size, 1, none⟩ = some (.int .i64 m) := pw_cell_below hA (by go_simp)
    have i2 : wA.cell? ⟨w.heap.size, 2, none⟩ = some (.int .i64 d) := pw_cell_below hA (by go_simp)
    have ip0 : wA.cell? ⟨w.heap.size + 1, 0, none⟩ = some (.int .i64 p0) := pw_cell_below hA (by go_simp)
    have ip1 : wA.cell? ⟨w.heap.size + 1, 1, none⟩ = some (.int .i64 p1) := pw_cell_below hA (by go_simp)
    have ip2 : wA.cell? ⟨w.heap.size + 1, 2, none⟩ = some (.int .i64 p2) := pw_cell_below hA (by go_simp)
    go_wp2_with fail
    refine (clock_Of.calls k y m d p0 p1 p2 _ _ _ HO.out).mono ?_
    rintro e w1 ⟨rfl, hB1⟩
    have j0 : w1.cell? ⟨w.heap.size, 0, none⟩ = some (.int .i64 y) := pw_cell_below hB1 i0
    have j1 : w1.cell? ⟨w.heap.size, 1, none⟩ = some (.int .i64 m) := pw_cell_below hB1 i1
    have j2 : w1.cell? ⟨w.heap.size, 2, none⟩ = some (.int .i64 d) := pw_cell_below hB1 i2
    have jp0 : w1.cell? ⟨w.heap.size + 1, 0, none⟩ = some (.int .i64 p0) := pw_cell_below hB1 ip0
    have jp1 : w1.cell? ⟨w.heap.size + 1, 1, none⟩ = some (.int .i64 p1) := pw_cell_below hB1 ip1
    have jp2 : w1.cell? ⟨w.heap.size + 1, 2, none⟩ = some (.int .i64 p2) := pw_cell_below hB1 ip2
    clear i0 i1 i2 ip0 ip1 ip2
    go_wp2_with fail
    refine (trystref01_Day.calls k 0 y m d _ _ _ HD.out).mono ?_
    rintro e w2 ⟨rfl, hB2⟩
    have i0 : w2.cell? ⟨w.heap.size, 0, none⟩ = some (.int .i64 y) := pw_cell_below hB2 j0
    have i1 : w2.cell? ⟨w.heap.size, 1, none⟩ = some (.int .i64 m) := pw_cell_below hB2 j1
    have i2 : w2.cell? ⟨w.heap.size, 2, none⟩ = some (.int .i64 d) := pw_cell_below hB2 j2
    have ip0 : w2.cell? ⟨w.heap.size + 1, 0, none⟩ = some (.int .i64 p0) := pw_cell_below hB2 jp0
    have ip1 : w2.cell? ⟨w.heap.size + 1, 1, none⟩ = some (.int .i64 p1) := pw_cell_below hB2 jp1
    have ip2 : w2.cell? ⟨w.heap.size + 1, 2, none⟩ = some (.int .i64 p2) := pw_cell_below hB2 jp2
    clear j0 j1 j2 jp0 jp1 jp2 i0 i1 i2
    have B0 := below_alloc (below_alloc (Below.refl w.heap.size w) (.cells #[.int .i64 y, .int .i64 m, .int .i64 d] 29)) (.cells #[.int .i64 p0, .int .i64 p1, .int .i64 p2] 30)
    have B1 := below_then B0 B0.size hA
    have B2 := below_then B1 B1.size hB1
    have B3 := Lib.hid (below_then B2 B2.size hB2)
    clear B0 B1 B2 hA hB1 hB2
    go_wp2_with fail
    refine (clock_At.calls _ s _ _ _ HA.out).mono ?_
    rintro e w3 ⟨rfl, ⟨n1, rfl⟩⟩
    go_wp2
    go_ret
    exact ⟨rfl, by repeat (with_reducible first | exact B3.out | apply pw_below_drewN)⟩
set_option maxHeartbeats 16000000 in
set_option maxRecDepth 100000 in
theorem walk_fail4 (k : Nat) (y m d p0 p1 p2 s n e day r g : Int) (w : World)
    (hO : clock_Of.f k y m d p0 p1 p2 = some (n, e)) (hD : trystref01_Day.f k 0 y m d = some (day, 0)) (hA : clock_At.f day s = some (r, g)) (hd : 1 ≤ day ∧ day ≤ 3652059) (ct : e = 2 ∧ n = 0 ∧ (decide (0 ≤ p0) = true ∧ decide (p0 < 24) = true ∧ decide (0 ≤ p1) = true ∧ decide (p1 < 60) = true ∧ decide (0 ≤ p2) = false)) (cs : CS s day r g) :
    Calls Try.prog 5 #[.agg #[.int .i64 y, .int .i64 m, .int .i64 d], .agg #[.int .i64 p0, .int .i64 p1, .int .i64 p2], .int .i64 s] w fun e w' => e = .returned (.bool true) ∧ Below w.heap.size w w' := by
  obtain ⟨hd1, hd2⟩ := hd
  unfold CS at cs
  rcases cs with ⟨s1, s2, ⟨sb1, sb2⟩, rfl, rfl⟩ | ⟨rfl, rfl, s1 | ⟨s1, s2⟩⟩
  all_goals
    obtain ⟨rfl, rfl, t0, t1, t2, t3, t4⟩ := ct
  all_goals
    have HO := Lib.hid hO; clear hO
    have HD := Lib.hid hD; clear hD
    have HA := Lib.hid hA; clear hA
    go_enter Try.func5, Try.ntmps5
    go_wp2_with fail
    refine (awake _).mono ?_
    rintro e wA ⟨rfl, hA⟩
    have i0 : wA.cell? ⟨w.heap.size, 0, none⟩ = some (.int .i64 y) := pw_cell_below hA (by go_simp)
    have i1 : wA.cell? ⟨w.heap.size, 1, none⟩ = some (.int .i64 m) := pw_cell_below hA (by go_simp)
    have i2 : wA.cell? ⟨w.heap.size, 2, none⟩ = some (.int .i64 d) := pw_cell_below hA (by go_simp)
    have ip0 : wA.cell? ⟨w.heap.size + 1, 0, none⟩ = some (.int .i64 p0) := pw_cell_below hA (by go_simp)
    have ip1 : wA.cell? ⟨w.heap.size + 1, 1, none⟩ = some (.int .i64 p1) := pw_cell_below hA (by go_simp)
    have ip2 : wA.cell? ⟨w.heap.size + 1, 2, none⟩ = some (.int .i64 p2) := pw_cell_below hA (by go_simp)
    go_wp2_with fail
    refine (clock_Of.calls k y m d p0 p1 p2 _ _ _ HO.out).mono ?_
    rintro e w1 ⟨rfl, hB1⟩
    have j0 : w1.cell? ⟨w.heap.size, 0, none⟩ = some (.int .i64 y) := pw_cell_below hB1 i0
    have j1 : w1.cell? ⟨w.heap.size, 1, none⟩ = some (.int .i64 m) := pw_cell_below hB1 i1
    have j2 : w1.cell? ⟨w.heap.size, 2, none⟩ = some (.int .i64 d) := pw_cell_below hB1 i2
    have jp0 : w1.cell? ⟨w.heap.size + 1, 0, none⟩ = some (.int .i64 p0) := pw_cell_below hB1 ip0
    have jp1 : w1.cell? ⟨w.heap.size + 1, 1, none⟩ = some (.int .i64 p1) := pw_cell_below hB1 ip1
    have jp2 : w1.cell? ⟨w.heap.size + 1, 2, none⟩ = some (.int .i64 p2) := pw_cell_below hB1 ip2
    clear i0 i1 i2 ip0 ip1 ip2
    go_wp2_with fail
    refine (trystref01_Day.calls k 0 y m d _ _ _ HD.out).mono ?_
    rintro e w2 ⟨rfl, hB2⟩
    have i0 : w2.cell? ⟨w.heap.size, 0, none⟩ = some (.int .i64 y) := pw_cell_below hB2 j0
    have i1 : w2.cell? ⟨w.heap.size, 1, none⟩ = some (.int .i64 m) := pw_cell_below hB2 j1
    have i2 : w2.cell? ⟨w.heap.size, 2, none⟩ = some (.int .i64 d) := pw_cell_below hB2 j2
    have ip0 : w2.cell? ⟨w.heap.size + 1, 0, none⟩ = some (.int .i64 p0) := pw_cell_below hB2 jp0
    have ip1 : w2.cell? ⟨w.heap.size + 1, 1, none⟩ = some (.int .i64 p1) := pw_cell_below hB2 jp1
    have ip2 : w2.cell? ⟨w.heap.size + 1, 2, none⟩ = some (.int .i64 p2) := pw_cell_below hB2 jp2
    clear j0 j1 j2 jp0 jp1 jp2 i0 i1 i2
    have B0 := below_alloc (below_alloc (Below.refl w.heap.size w) (.cells #[.int .i64 y, .int .i64 m, .int .i64 d] 29)) (.cells #[.int .i64 p0, .int .i64 p1, .int .i64 p2] 30)
    have B1 := below_then B0 B0.size hA
    have B2 := below_then B1 B1.size hB1
    have B3 := Lib.hid (below_then B2 B2.size hB2)
    clear B0 B1 B2 hA hB1 hB2
    go_wp2_with fail
    refine (clock_At.calls _ s _ _ _ HA.out).mono ?_
    rintro e w3 ⟨rfl, ⟨n1, rfl⟩⟩
    go_wp2
    go_ret
    exact ⟨rfl, by repeat (with_reducible first | exact B3.out | apply pw_below_drewN)⟩
set_option maxHeartbeats 16000000 in
set_option maxRecDepth 100000 in
theorem walk_fail5 (k : Nat) (y m d p0 p1 p2 s n e day r g : Int) (w : World)
    (hO : clock_Of.f k y m d p0 p1 p2 = some (n, e)) (hD : trystref01_Day.f k 0 y m d = some (day, 0)) (hA : clock_At.f day s = some (r, g)) (hd : 1 ≤ day ∧ day ≤ 3652059) (ct : e = 2 ∧ n = 0 ∧ (decide (0 ≤ p0) = true ∧ decide (p0 < 24) = true ∧ decide (0 ≤ p1) = true ∧ decide (p1 < 60) = true ∧ decide (0 ≤ p2) = true ∧ decide (p2 < 60) = false)) (cs : CS s day r g) :
    Calls Try.prog 5 #[.agg #[.int .i64 y, .int .i64 m, .int .i64 d], .agg #[.int .i64 p0, .int .i64 p1, .int .i64 p2], .int .i64 s] w fun e w' => e = .returned (.bool true) ∧ Below w.heap.size w w' := by
  obtain ⟨hd1, hd2⟩ := hd
  unfold CS at cs
  rcases cs with ⟨s1, s2, ⟨sb1, sb2⟩, rfl, rfl⟩ | ⟨rfl, rfl, s1 | ⟨s1, s2⟩⟩
  all_goals
    obtain ⟨rfl, rfl, t0, t1, t2, t3, t4, t5⟩ := ct
  all_goals
    have HO := Lib.hid hO; clear hO
    have HD := Lib.hid hD; clear hD
    have HA := Lib.hid hA; clear hA
    go_enter Try.func5, Try.ntmps5
    go_wp2_with fail
    refine (awake _).mono ?_
    rintro e wA ⟨rfl, hA⟩
    have i0 : wA.cell? ⟨w.heap.size, 0, none⟩ = some (.int .i64 y) := pw_cell_below hA (by go_simp)
    have i1 : wA.cell? ⟨w.heap.size, 1, none⟩ = some (.int .i64 m) := pw_cell_below hA (by go_simp)
    have i2 : wA.cell? ⟨w.heap.size, 2, none⟩ = some (.int .i64 d) := pw_cell_below hA (by go_simp)
    have ip0 : wA.cell? ⟨w.heap.size + 1, 0, none⟩ = some (.int .i64 p0) := pw_cell_below hA (by go_simp)
    have ip1 : wA.cell? ⟨w.heap.size + 1, 1, none⟩ = some (.int .i64 p1) := pw_cell_below hA (by go_simp)
    have ip2 : wA.cell? ⟨w.heap.size + 1, 2, none⟩ = some (.int .i64 p2) := pw_cell_below hA (by go_simp)
    go_wp2_with fail
    refine (clock_Of.calls k y m d p0 p1 p2 _ _ _ HO.out).mono ?_
    rintro e w1 ⟨rfl, hB1⟩
    have j0 : w1.cell? ⟨w.heap.size, 0, none⟩ = some (.int .i64 y) := pw_cell_below hB1 i0
    have j1 : w1.cell? ⟨w.heap.size, 1, none⟩ = some (.int .i64 m) := pw_cell_below hB1 i1
    have j2 : w1.cell? ⟨w.heap.size, 2, none⟩ = some (.int .i64 d) := pw_cell_below hB1 i2
    have jp0 : w1.cell? ⟨w.heap.size + 1, 0, none⟩ = some (.int .i64 p0) := pw_cell_below hB1 ip0
    have jp1 : w1.cell? ⟨w.heap.size + 1, 1, none⟩ = some (.int .i64 p1) := pw_cell_below hB1 ip1
    have jp2 : w1.cell? ⟨w.heap.size + 1, 2, none⟩ = some (.int .i64 p2) := pw_cell_below hB1 ip2
    clear i0 i1 i2 ip0 ip1 ip2
    go_wp2_with fail
    refine (trystref01_Day.calls k 0 y m d _ _ _ HD.out).mono ?_
    rintro e w2 ⟨rfl, hB2⟩
    have i0 : w2.cell? ⟨w.heap.size, 0, none⟩ = some (.int .i64 y) := pw_cell_below hB2 j0
    have i1 : w2.cell? ⟨w.heap.size, 1, none⟩ = some (.int .i64 m) := pw_cell_below hB2 j1
    have i2 : w2.cell? ⟨w.heap.size, 2, none⟩ = some (.int .i64 d) := pw_cell_below hB2 j2
    have ip0 : w2.cell? ⟨w.heap.size + 1, 0, none⟩ = some (.int .i64 p0) := pw_cell_below hB2 jp0
    have ip1 : w2.cell? ⟨w.heap.size + 1, 1, none⟩ = some (.int .i64 p1) := pw_cell_below hB2 jp1
    have ip2 : w2.cell? ⟨w.heap.size + 1, 2, none⟩ = some (.int .i64 p2) := pw_cell_below hB2 jp2
    clear j0 j1 j2 jp0 jp1 jp2 i0 i1 i2
    have B0 := below_alloc (below_alloc (Below.refl w.heap.size w) (.cells #[.int .i64 y, .int .i64 m, .int .i64 d] 29)) (.cells #[.int .i64 p0, .int .i64 p1, .int .i64 p2] 30)
    have B1 := below_then B0 B0.size hA
    have B2 := below_then B1 B1.size hB1
    have B3 := Lib.hid (below_then B2 B2.size hB2)
    clear B0 B1 B2 hA hB1 hB2
    go_wp2_with fail
    refine (clock_At.calls _ s _ _ _ HA.out).mono ?_
    rintro e w3 ⟨rfl, ⟨n1, rfl⟩⟩
    go_wp2
    go_ret
    exact ⟨rfl, by repeat (with_reducible first | exact B3.out | apply pw_below_drewN)⟩
theorem walk (k : Nat) (y m d p0 p1 p2 s n e day r g : Int) (w : World)
    (hO : clock_Of.f k y m d p0 p1 p2 = some (n, e)) (hD : trystref01_Day.f k 0 y m d = some (day, 0)) (hA : clock_At.f day s = some (r, g)) (hd : 1 ≤ day ∧ day ≤ 3652059) (ct : CT p0 p1 p2 day n e) (cs : CS s day r g) :
    Calls Try.prog 5 #[.agg #[.int .i64 y, .int .i64 m, .int .i64 d], .agg #[.int .i64 p0, .int .i64 p1, .int .i64 p2], .int .i64 s] w fun e w' => e = .returned (.bool true) ∧ Below w.heap.size w w' := by
  rcases ct with ct | ⟨h1, h2, ct⟩
  · exact walk_time k y m d p0 p1 p2 s n e day r g w hO hD hA hd ct cs
  · rcases ct with ct | ct | ct | ct | ct | ct
    · exact walk_fail0 k y m d p0 p1 p2 s n e day r g w hO hD hA hd ⟨h1, h2, ct⟩ cs
    · exact walk_fail1 k y m d p0 p1 p2 s n e day r g w hO hD hA hd ⟨h1, h2, ct⟩ cs
    · exact walk_fail2 k y m d p0 p1 p2 s n e day r g w hO hD hA hd ⟨h1, h2, ct⟩ cs
    · exact walk_fail3 k y m d p0 p1 p2 s n e day r g w hO hD hA hd ⟨h1, h2, ct⟩ cs
    · exact walk_fail4 k y m d p0 p1 p2 s n e day r g w hO hD hA hd ⟨h1, h2, ct⟩ cs
    · exact walk_fail5 k y m d p0 p1 p2 s n e day r g w hO hD hA hd ⟨h1, h2, ct⟩ cs
end ClockOfW
theorem ClockOf_calls (y m d p0 p1 p2 s : Int) (w : World) (_ : (Lit.int .i64 y).wf = true) (_ : (Lit.int .i64 m).wf = true) (_ : (Lit.int .i64 d).wf = true) (_ : (Lit.int .i64 p0).wf = true) (_ : (Lit.int .i64 p1).wf = true) (_ : (Lit.int .i64 p2).wf = true) (_ : (Lit.int .i64 s).wf = true) :
    Calls Try.prog 5 #[.agg #[.int .i64 y, .int .i64 m, .int .i64 d], .agg #[.int .i64 p0, .int .i64 p1, .int .i64 p2], .int .i64 s] w fun e w' => e = .returned (.bool true) ∧ Below w.heap.size w w' := by
  by_cases hr : Right y m d
  · have hi := right_in hr
    have hm := dim_pos (lp y) m (by have := hr.2.2; omega)
    have hdl := dim_lo (lp y) m (lp_01 y) hm.1 hm.2
    have hD := fDay_yes 40 (by omega) 0 y m d 1 9999 (Or.inl rfl) rfl (by omega) (by omega) ⟨hr.1, hr.2.1, hr.2.2.1, by have := hr.2.2.2; simpa [len] using this⟩ ⟨hm.1, by omega⟩ (by have := hr.2.2.2; omega)
    have e1 : fx 0 y m + d = ah y + cum (lp y) m + d := by simp [fx]
    rw [e1, if_pos ⟨hi.1, hi.2⟩] at hD
    have hs : ∃ r g, clock_At.f (ah y + cum (lp y) m + d) s = some (r, g) ∧ ClockOfW.CS s (ah y + cum (lp y) m + d) r g := by
      by_cases c : 0 ≤ s
      · by_cases c' : s < 86400
        · exact ⟨_, _, cAt_yes hi c c', Or.inl ⟨decide_eq_true c, decide_eq_true c', ⟨c, c'⟩, rfl, rfl⟩⟩
        · exact ⟨_, _, cAt_no (fun z => c' z.2.2), Or.inr ⟨rfl, rfl, Or.inr ⟨decide_eq_true c, decide_eq_false c'⟩⟩⟩
      · exact ⟨_, _, cAt_no (fun z => c z.2.1), Or.inr ⟨rfl, rfl, Or.inl (decide_eq_false c)⟩⟩
    obtain ⟨r, g, hA, cs⟩ := hs
    have ht : ∃ n e, clock_Of.f 40 y m d p0 p1 p2 = some (n, e) ∧ ClockOfW.CT p0 p1 p2 (ah y + cum (lp y) m + d) n e := by
      by_cases t : Time p0 p1 p2
      · obtain ⟨t1, t2, t3, t4, t5, t6⟩ := t
        exact ⟨_, _, cOf_yes 40 (by omega) hr ⟨t1, t2, t3, t4, t5, t6⟩, Or.inl ⟨⟨decide_eq_true t1, decide_eq_true (by omega), decide_eq_true t3, decide_eq_true (by omega), decide_eq_true t5, decide_eq_true (by omega)⟩, ⟨t1, by omega, t3, by omega, t5, by omega⟩, rfl, rfl⟩⟩
      · refine ⟨_, _, cOf_no 40 (by omega) (fun z => t z.2), Or.inr ⟨rfl, rfl, ?_⟩⟩
        by_cases t1 : 0 ≤ p0
        · by_cases t2 : p0 < 24
          · by_cases t3 : 0 ≤ p1
            · by_cases t4 : p1 < 60
              · by_cases t5 : 0 ≤ p2
                · by_cases t6 : p2 < 60
                  · exact absurd ⟨t1, by omega, t3, by omega, t5, by omega⟩ t
                  · exact Or.inr (Or.inr (Or.inr (Or.inr (Or.inr ⟨decide_eq_true t1, decide_eq_true t2, decide_eq_true t3, decide_eq_true t4, decide_eq_true t5, decide_eq_false t6⟩))))
                · exact Or.inr (Or.inr (Or.inr (Or.inr (Or.inl ⟨decide_eq_true t1, decide_eq_true t2, decide_eq_true t3, decide_eq_true t4, decide_eq_false t5⟩))))
              · exact Or.inr (Or.inr (Or.inr (Or.inl ⟨decide_eq_true t1, decide_eq_true t2, decide_eq_true t3, decide_eq_false t4⟩)))
            · exact Or.inr (Or.inr (Or.inl ⟨decide_eq_true t1, decide_eq_true t2, decide_eq_false t3⟩))
          · exact Or.inr (Or.inl ⟨decide_eq_true t1, decide_eq_false t2⟩)
        · exact Or.inl (decide_eq_false t1)
    obtain ⟨n, e, hO, ct⟩ := ht
    exact ClockOfW.walk 40 y m d p0 p1 p2 s n e _ r g w hO hD hA hi ct cs
  · have hD := fDay_no 40 (by omega) 0 y m d 1 9999 (Or.inl rfl) rfl (by omega) (by omega) (fun z => hr ⟨z.1, z.2.1, z.2.2.1, by have := z.2.2.2; simpa [len] using this⟩)
    exact ClockOfW.walk_no 40 y m d p0 p1 p2 s w (cOf_no 40 (by omega) (fun z => hr z.1)) hD (cAt_no (fun z => by have := z.1.1; omega))
end Go.Proofs.Ythppkdbelmolbaa.Pure
