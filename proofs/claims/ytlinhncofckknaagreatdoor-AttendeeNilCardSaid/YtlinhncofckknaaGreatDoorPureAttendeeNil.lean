/- A nil book has nothing and does nothing: with no condition. -/
import Derived.Test.YtlinhncofckknaaGreatDoorNilW
namespace Go.Proofs.YtlinhncofckknaaGreatDoor.Pure
open Go.RowKit Go.Proofs.YtlinhncofckknaaGreatDoorW.PrintWords Go.Proofs.YtlinhncofckknaaGreatDoorW.PrintLast Go.Proofs.YtlinhncofckknaaGreatDoor.Q Go.Proofs.YtlinhncofckknaaGreatDoor.NilW
set_option linter.unusedVariables false
set_option linter.unusedSimpArgs false
namespace AttendeeNilW
theorem fld (w : World) : (Instr.field 72 (.agg #[.int .i64 0, .int .i64 0, .int .i64 0, .bool false]) 3).run Tryz.prog w = .ok (.bool false) w := by kernel_rfl
set_option maxHeartbeats 4000000 in
theorem long (s : ByteArray) (n : Int) (w : World) (h : (200 : Int) < s.size) :
    Calls Tryz.prog 5 #[.string s, .int .i64 n] w fun e w' => e = .returned (.bool true) ∧ Below w.heap.size w w' := by
  have b0 : decide (200 < (s.size : Int)) = true := decide_eq_true h
  clear h
  go_enter Tryz.func5, Tryz.ntmps5
  go_wp2_with fail
  refine (awake _).mono ?_
  rintro e wA ⟨rfl, hA⟩
  have B := Lib.hid hA
  clear hA
  go_wp2_with fail
  refine (awake _).mono ?_
  rintro e w2 ⟨rfl, hB2⟩
  have B2 := Lib.hid (below_then B.out B.out.size hB2)
  clear hB2 B
  go_wp2
  go_ret
  exact ⟨rfl, by repeat (with_reducible first | exact B2.out | apply pw_below_drewN | apply below_alloc)⟩
set_option maxHeartbeats 8000000 in
set_option maxRecDepth 100000 in
theorem short (s : ByteArray) (n : Int) (w : World) (h : ¬ (200 : Int) < s.size) :
    Calls Tryz.prog 5 #[.string s, .int .i64 n] w fun e w' => e = .returned (.bool true) ∧ Below w.heap.size w w' := by
  have b0 : decide (200 < (s.size : Int)) = false := decide_eq_false h
  clear h
  go_enter Tryz.func5, Tryz.ntmps5
  go_wp2_with fail
  refine (awake _).mono ?_
  rintro e wA ⟨rfl, hA⟩
  have B := Lib.hid hA
  clear hA
  go_wp2_with fail
  refine (take_nil _).mono ?_
  rintro e w1 ⟨rfl, hB1⟩
  have B1 := Lib.hid (below_then B.out B.out.size hB1)
  clear hB1 B
  go_wp2_with fail
  refine (reply_nil _ _ _ _ _).mono ?_
  rintro e w2 ⟨rfl, hB2⟩
  have B2 := Lib.hid (below_then B1.out B1.out.size hB2)
  clear hB2 B1
  go_wp2_with fail
  refine (counter_nil _ _ _ _).mono ?_
  rintro e w3 ⟨rfl, hB3⟩
  have B3 := Lib.hid (below_then B2.out B2.out.size hB3)
  clear hB3 B2
  go_wp2_with fail
  refine (refresh_nil _ _ _).mono ?_
  rintro e w4 ⟨rfl, hB4⟩
  have B4 := Lib.hid (below_then B3.out B3.out.size hB4)
  clear hB4 B3
  go_wp2_with fail
  refine (meeting_nil _ _).mono ?_
  rintro e w5 ⟨rfl, hB5⟩
  have B5 := Lib.hid (below_then B4.out B4.out.size hB5)
  clear hB5 B4
  have h0 := hI w5 48
  go_wp2_with (first | (with_reducible refine wpList_allocI rfl rfl ?_) | (with_reducible refine wpList_storeI rfl _ _ rfl w5.heap.size rfl rfl h0 ?_))
  refine (given_nil _ _).mono ?_
  rintro e w6 ⟨rfl, hB6⟩
  have B6 := Lib.hid (below_then (below_setRow (below_alloc B5.out _) B5.out.size _) (below_setRow (below_alloc B5.out _) B5.out.size _).size hB6)
  clear hB6 B5 h0
  have hfl := fld
  go_wp2_with fail
  refine (declined_nil _ _).mono ?_
  rintro e w7 ⟨rfl, hB7⟩
  have B7 := Lib.hid (below_then B6.out B6.out.size hB7)
  clear hB7 B6
  go_wp2_with fail
  refine (uids_nil _).mono ?_
  rintro e w' ⟨rfl, rfl⟩
  go_wp2
  go_ret
  exact ⟨rfl, by repeat (with_reducible first | exact B7.out | apply pw_below_drewN | apply below_alloc)⟩
end AttendeeNilW
theorem AttendeeNil_calls (s : ByteArray) (n : Int) (w : World) (wf : s.size ≤ maxLen) (wn : (Lit.int .i64 n).wf = true) :
    Calls Tryz.prog 5 #[.string s, .int .i64 n] w fun e w' => e = .returned (.bool true) ∧ Below w.heap.size w w' := by
  by_cases h : (200 : Int) < s.size
  · exact AttendeeNilW.long s n w h
  · exact AttendeeNilW.short s n w h
end Go.Proofs.YtlinhncofckknaaGreatDoor.Pure
