/- Texts of this claim, merged: ShowDay, Cal, FunA. -/
import Derived.Test.YtgbbgcepcnklkaaGreatDoorMgShowParses2
import Derived.Test.YtgbbgcepcnklkaaGreatDoorMgShowParses4
import Derived.Test.YtgbbgcepcnklkaaGreatDoorMgShowParses5
import Derived.Test.YtgbbgcepcnklkaaGreatDoorMgShowParses6
import Derived.Test.YtgbbgcepcnklkaaGreatDoorMgShowParses7
import Derived.Test.YtgbbgcepcnklkaaGreatDoorMgShowParses8
import Derived.Test.YtgbbgcepcnklkaaGreatDoorMgShowParses9
import Derived.Test.YtgbbgcepcnklkaaGreatDoorMgShowParses3
import Derived.Test.YtgbbgcepcnklkaaGreatDoorWTab
import Derived.Lib.Hide
import Derived.RowKit
import Derived.Test.YtgbbgcepcnklkaaGreatDoorMgShowParses1
/- show.Day, walked calendar by calendar: an array of functions, indexed. (Written by gen_show.py.) -/
namespace Go.Proofs.YtgbbgcepcnklkaaGreatDoor.ShowDay
open Go.RowKit Go.Proofs.YtgbbgcepcnklkaaGreatDoorW.PrintWords Go.Proofs.YtgbbgcepcnklkaaGreatDoorW.PrintLast Go.Proofs.YtgbbgcepcnklkaaGreatDoor.Q
set_option linter.unusedVariables false
set_option linter.unusedSimpArgs false
def T3 : Bool × List (List Nat × List Nat) := (true, [([], []), ([], []), ([0, 1], [0, 1]), ([], []), ([2, 3], [2, 3]), ([4], [4]), ([4], [4]), ([5, 4, 0, 1, 2, 3, 4, 5, 6], [5]), ([6, 7, 0, 1, 2, 3, 4, 5, 6, 7], [6])])
def B3 : List Nat := [0, 0, 3, 0, 15, 31, 31, 127, 255]
theorem tab3 : rtab .any (opsOf Tryz.f15 3) = T3 := by kernel_rfl
theorem bits3 : waitsOk T3.2 B3 = true := by kernel_rfl

theorem ix0 (w : World) : (Instr.index 53 (.agg #[.func (.func 24) #[] #[], .func (.func 25) #[] #[], .func (.func 26) #[] #[], .func (.func 27) #[] #[], .func (.func 28) #[] #[], .func (.func 29) #[] #[], .func (.func 30) #[] #[]]) (.int .i64 0)).run Tryz.prog w = .ok (.func (.func 24) #[] #[]) w := by kernel_rfl
attribute [local go_sem] ix0
set_option maxHeartbeats 4000000 in
set_option maxRecDepth 100000 in
theorem walk0 (y m d r1 r2 : Int) (w : World) (h : rata_Day.f 40 y m d = some (r1, r2)) :
  Calls Tryz.prog 15 #[.int .i64 0, .agg #[.int .i64 y, .int .i64 m, .int .i64 d]] w fun e w' => e = .returned (.tuple #[.int .i64 r1, .int .i64 r2]) ∧ Below w.heap.size w w' := by
 have H := Lib.hid h
 clear h
 go_enter Tryz.func15, Tryz.ntmps15
 go_wp2_with fail
 refine (show_is.calls 0 true _ (by decide)).mono ?_
 rintro e w1 ⟨rfl, ⟨nd, rfl⟩⟩
 go_wp2_with fail
 refine start_ (n := 9) (S := fun w' => w'.cell? ⟨w.heap.size, 0, none⟩ = some (.int .i64 y) ∧ w'.cell? ⟨w.heap.size, 1, none⟩ = some (.int .i64 m) ∧ w'.cell? ⟨w.heap.size, 2, none⟩ = some (.int .i64 d)) (ds := [4]) #[false, false, false, false, false, false, false, false, false] (by kernel_rfl) rfl rfl ⟨by go_simp, by go_simp, by go_simp⟩ (fun hHeld => ?_)
 refine with_tabW tab3 bits3 (fun HT_ HW_ => ?_)
 have B : Below w.heap.size w _ := (by repeat (with_reducible first | exact Below.refl _ _ | apply below_drew | apply pw_below_drewN | apply below_alloc) : Below w.heap.size w (((w.alloc (.cells #[.int .i64 y, .int .i64 m, .int .i64 d] 41 (0, 0))).drewN nd).drew))
 generalize ((w.alloc (.cells #[.int .i64 y, .int .i64 m, .int .i64 d] 41 (0, 0))).drewN nd).drew = w2 at B hHeld ⊢
 replace B := Lib.hid B
 refine pure_ (i := 0) (N := some 9) (v := ?_) (a' := ?_) #[true, false, false, false, false, false, false, false, false] rfl rfl (any_of HT_.out (by kernel_rfl)) (fun _ _ _ h => h) (Or.inl ⟨by rfl, ?_⟩) ?_ ?_
 rotate_left
 ·intro w'
  go_simp
  with_reducible rfl
 rotate_left
 ·simp only [Act.put, sA, sB, sC, i64_w, i32_w]
  rfl
 refine pure_ (i := 1) (N := some 10) (v := ?_) (a' := ?_) #[true, true, false, false, false, false, false, false, false] rfl rfl (any_of HT_.out (by kernel_rfl)) (fun _ _ _ h => h) (Or.inl ⟨by rfl, ?_⟩) ?_ ?_
 rotate_left
 ·intro w'
  go_simp
  with_reducible rfl
 rotate_left
 ·simp only [Act.put, sA, sB, sC, i64_w, i32_w]
  rfl
 refine pure_ (i := 2) (N := some 11) (v := ?_) (a' := ?_) #[true, true, true, false, false, false, false, false, false] rfl rfl (any_of HT_.out (by kernel_rfl)) (fun _ _ _ h => h) (Or.inl ⟨by rfl, ?_⟩) ?_ ?_
 rotate_left
 ·intro w'
  go_simp
  with_reducible rfl
 rotate_left
 ·simp only [Act.put, sA, sB, sC, i64_w, i32_w]
  rfl
 refine take_ (i := 3) (N := some 12) (v := ?_) (a' := ?_) #[true, true, true, true, false, false, false, false, false] rfl rfl (take_ofW HT_.out HW_.out (by kernel_rfl)) (fun _ _ _ h => h) (Or.inl ⟨by rfl, ?_⟩) hHeld ?_ ?_
 rotate_left
 ·rintro w' ⟨s0, s1, s2⟩
  go_simp
  with_reducible rfl
 rotate_left
 ·simp only [Act.put, sA, sB, sC, i64_w, i32_w]
  rfl
 refine last_ (i := 4) (N := some 13) #[true, true, true, true, true, false, false, false, false] rfl rfl (one_of HT_.out (by kernel_rfl)) (by decide) (fun K hK => ?_)
 have he := enters_ Tryz.func24 (by kernel_rfl) rfl #[.agg #[.int .i64 y, .int .i64 m, .int .i64 d]] w2
 refine call_ 24 #[.agg #[.int .i64 y, .int .i64 m, .int .i64 d]] (by rfl) rfl (by unfold execOp; simp [resolve, Deferred.ofValue, invoke, Act.eval, he]) ?_
 clear he
 refine (rata_Day.calls 40 y m d r1 r2 w2 H.out).mono ?_
 rintro e w3 ⟨rfl, hb⟩
 refine ⟨_, rfl, ?_⟩
 replace B := Lib.hid (below_then B.out B.out.size hb)
 clear hb
 refine hK.out _ _ ?_
 clear hK K
 refine norm_ (a' := ?_) ?_ ?_
 rotate_left
 ·show Act.put _ (some 13) _ = _
  simp only [Act.put, sA, sB, sC, i64_w, i32_w]
  rfl
 refine pure_ (i := 5) (N := some 14) (v := ?_) (a' := ?_) #[true, true, true, true, true, true, false, false, false] rfl rfl (any_of HT_.out (by kernel_rfl)) (fun _ _ _ h => h) (Or.inl ⟨by rfl, ?_⟩) ?_ ?_
 rotate_left
 ·intro w'
  go_simp
  with_reducible rfl
 rotate_left
 ·simp only [Act.put, sA, sB, sC, i64_w, i32_w]
  rfl
 refine pure_ (i := 6) (N := some 15) (v := ?_) (a' := ?_) #[true, true, true, true, true, true, true, false, false] rfl rfl (any_of HT_.out (by kernel_rfl)) (fun _ _ _ h => h) (Or.inl ⟨by rfl, ?_⟩) ?_ ?_
 rotate_left
 ·intro w'
  go_simp
  with_reducible rfl
 rotate_left
 ·simp only [Act.put, sA, sB, sC, i64_w, i32_w]
  rfl
 refine pure_ (i := 7) (N := some 4) (v := ?_) (a' := ?_) #[true, true, true, true, true, true, true, true, false] rfl rfl (any_of HT_.out (by kernel_rfl)) (fun _ _ _ h => h) (Or.inl ⟨by rfl, ?_⟩) ?_ ?_
 rotate_left
 ·intro w'
  go_simp
  with_reducible rfl
 rotate_left
 ·simp only [Act.put, sA, sB, sC, i64_w, i32_w]
  rfl
 refine pure_ (i := 8) (N := some 5) (v := ?_) (a' := ?_) #[true, true, true, true, true, true, true, true, true] rfl rfl (any_of HT_.out (by kernel_rfl)) (fun _ _ _ h => h) (Or.inl ⟨by rfl, ?_⟩) ?_ ?_
 rotate_left
 ·intro w'
  go_simp
  with_reducible rfl
 rotate_left
 ·simp only [Act.put, sA, sB, sC, i64_w, i32_w]
  rfl
 refine done_ (done_of HT_.out (by kernel_rfl)) ?_
 clear HT_ HW_
 go_wp2_with fail
 go_ret2
 exact ⟨rfl, B.out⟩
theorem ix1 (w : World) : (Instr.index 53 (.agg #[.func (.func 24) #[] #[], .func (.func 25) #[] #[], .func (.func 26) #[] #[], .func (.func 27) #[] #[], .func (.func 28) #[] #[], .func (.func 29) #[] #[], .func (.func 30) #[] #[]]) (.int .i64 1)).run Tryz.prog w = .ok (.func (.func 25) #[] #[]) w := by kernel_rfl
attribute [local go_sem] ix1
set_option maxHeartbeats 4000000 in
set_option maxRecDepth 100000 in
theorem walk1 (y m d r1 r2 : Int) (w : World) (h : julian_FromJulian.f 40 y m d = some (r1, r2)) :
  Calls Tryz.prog 15 #[.int .i64 1, .agg #[.int .i64 y, .int .i64 m, .int .i64 d]] w fun e w' => e = .returned (.tuple #[.int .i64 r1, .int .i64 r2]) ∧ Below w.heap.size w w' := by
 have H := Lib.hid h
 clear h
 go_enter Tryz.func15, Tryz.ntmps15
 go_wp2_with fail
 refine (show_is.calls 1 true _ (by decide)).mono ?_
 rintro e w1 ⟨rfl, ⟨nd, rfl⟩⟩
 go_wp2_with fail
 refine start_ (n := 9) (S := fun w' => w'.cell? ⟨w.heap.size, 0, none⟩ = some (.int .i64 y) ∧ w'.cell? ⟨w.heap.size, 1, none⟩ = some (.int .i64 m) ∧ w'.cell? ⟨w.heap.size, 2, none⟩ = some (.int .i64 d)) (ds := [4]) #[false, false, false, false, false, false, false, false, false] (by kernel_rfl) rfl rfl ⟨by go_simp, by go_simp, by go_simp⟩ (fun hHeld => ?_)
 refine with_tabW tab3 bits3 (fun HT_ HW_ => ?_)
 have B : Below w.heap.size w _ := (by repeat (with_reducible first | exact Below.refl _ _ | apply below_drew | apply pw_below_drewN | apply below_alloc) : Below w.heap.size w (((w.alloc (.cells #[.int .i64 y, .int .i64 m, .int .i64 d] 41 (0, 0))).drewN nd).drew))
 generalize ((w.alloc (.cells #[.int .i64 y, .int .i64 m, .int .i64 d] 41 (0, 0))).drewN nd).drew = w2 at B hHeld ⊢
 replace B := Lib.hid B
 refine pure_ (i := 0) (N := some 9) (v := ?_) (a' := ?_) #[true, false, false, false, false, false, false, false, false] rfl rfl (any_of HT_.out (by kernel_rfl)) (fun _ _ _ h => h) (Or.inl ⟨by rfl, ?_⟩) ?_ ?_
 rotate_left
 ·intro w'
  go_simp
  with_reducible rfl
 rotate_left
 ·simp only [Act.put, sA, sB, sC, i64_w, i32_w]
  rfl
 refine pure_ (i := 1) (N := some 10) (v := ?_) (a' := ?_) #[true, true, false, false, false, false, false, false, false] rfl rfl (any_of HT_.out (by kernel_rfl)) (fun _ _ _ h => h) (Or.inl ⟨by rfl, ?_⟩) ?_ ?_
 rotate_left
 ·intro w'
  go_simp
  with_reducible rfl
 rotate_left
 ·simp only [Act.put, sA, sB, sC, i64_w, i32_w]
  rfl
 refine pure_ (i := 2) (N := some 11) (v := ?_) (a' := ?_) #[true, true, true, false, false, false, false, false, false] rfl rfl (any_of HT_.out (by kernel_rfl)) (fun _ _ _ h => h) (Or.inl ⟨by rfl, ?_⟩) ?_ ?_
 rotate_left
 ·intro w'
  go_simp
  with_reducible rfl
 rotate_left
 ·simp only [Act.put, sA, sB, sC, i64_w, i32_w]
  rfl
 refine take_ (i := 3) (N := some 12) (v := ?_) (a' := ?_) #[true, true, true, true, false, false, false, false, false] rfl rfl (take_ofW HT_.out HW_.out (by kernel_rfl)) (fun _ _ _ h => h) (Or.inl ⟨by rfl, ?_⟩) hHeld ?_ ?_
 rotate_left
 ·rintro w' ⟨s0, s1, s2⟩
  go_simp
  with_reducible rfl
 rotate_left
 ·simp only [Act.put, sA, sB, sC, i64_w, i32_w]
  rfl
 refine last_ (i := 4) (N := some 13) #[true, true, true, true, true, false, false, false, false] rfl rfl (one_of HT_.out (by kernel_rfl)) (by decide) (fun K hK => ?_)
 have he := enters_ Tryz.func25 (by kernel_rfl) rfl #[.agg #[.int .i64 y, .int .i64 m, .int .i64 d]] w2
 refine call_ 25 #[.agg #[.int .i64 y, .int .i64 m, .int .i64 d]] (by rfl) rfl (by unfold execOp; simp [resolve, Deferred.ofValue, invoke, Act.eval, he]) ?_
 clear he
 refine (julian_FromJulian.calls 40 y m d r1 r2 w2 H.out).mono ?_
 rintro e w3 ⟨rfl, hb⟩
 refine ⟨_, rfl, ?_⟩
 replace B := Lib.hid (below_then B.out B.out.size hb)
 clear hb
 refine hK.out _ _ ?_
 clear hK K
 refine norm_ (a' := ?_) ?_ ?_
 rotate_left
 ·show Act.put _ (some 13) _ = _
  simp only [Act.put, sA, sB, sC, i64_w, i32_w]
  rfl
 refine pure_ (i := 5) (N := some 14) (v := ?_) (a' := ?_) #[true, true, true, true, true, true, false, false, false] rfl rfl (any_of HT_.out (by kernel_rfl)) (fun _ _ _ h => h) (Or.inl ⟨by rfl, ?_⟩) ?_ ?_
 rotate_left
 ·intro w'
  go_simp
  with_reducible rfl
 rotate_left
 ·simp only [Act.put, sA, sB, sC, i64_w, i32_w]
  rfl
 refine pure_ (i := 6) (N := some 15) (v := ?_) (a' := ?_) #[true, true, true, true, true, true, true, false, false] rfl rfl (any_of HT_.out (by kernel_rfl)) (fun _ _ _ h => h) (Or.inl ⟨by rfl, ?_⟩) ?_ ?_
 rotate_left
 ·intro w'
  go_simp
  with_reducible rfl
 rotate_left
 ·simp only [Act.put, sA, sB, sC, i64_w, i32_w]
  rfl
 refine pure_ (i := 7) (N := some 4) (v := ?_) (a' := ?_) #[true, true, true, true, true, true, true, true, false] rfl rfl (any_of HT_.out (by kernel_rfl)) (fun _ _ _ h => h) (Or.inl ⟨by rfl, ?_⟩) ?_ ?_
 rotate_left
 ·intro w'
  go_simp
  with_reducible rfl
 rotate_left
 ·simp only [Act.put, sA, sB, sC, i64_w, i32_w]
  rfl
 refine pure_ (i := 8) (N := some 5) (v := ?_) (a' := ?_) #[true, true, true, true, true, true, true, true, true] rfl rfl (any_of HT_.out (by kernel_rfl)) (fun _ _ _ h => h) (Or.inl ⟨by rfl, ?_⟩) ?_ ?_
 rotate_left
 ·intro w'
  go_simp
  with_reducible rfl
 rotate_left
 ·simp only [Act.put, sA, sB, sC, i64_w, i32_w]
  rfl
 refine done_ (done_of HT_.out (by kernel_rfl)) ?_
 clear HT_ HW_
 go_wp2_with fail
 go_ret2
 exact ⟨rfl, B.out⟩
theorem ix2 (w : World) : (Instr.index 53 (.agg #[.func (.func 24) #[] #[], .func (.func 25) #[] #[], .func (.func 26) #[] #[], .func (.func 27) #[] #[], .func (.func 28) #[] #[], .func (.func 29) #[] #[], .func (.func 30) #[] #[]]) (.int .i64 2)).run Tryz.prog w = .ok (.func (.func 26) #[] #[]) w := by kernel_rfl
attribute [local go_sem] ix2
set_option maxHeartbeats 4000000 in
set_option maxRecDepth 100000 in
theorem walk2 (y m d r1 r2 : Int) (w : World) (h : iso_FromISO.f 40 y m d = some (r1, r2)) :
  Calls Tryz.prog 15 #[.int .i64 2, .agg #[.int .i64 y, .int .i64 m, .int .i64 d]] w fun e w' => e = .returned (.tuple #[.int .i64 r1, .int .i64 r2]) ∧ Below w.heap.size w w' := by
 have H := Lib.hid h
 clear h
 go_enter Tryz.func15, Tryz.ntmps15
 go_wp2_with fail
 refine (show_is.calls 2 true _ (by decide)).mono ?_
 rintro e w1 ⟨rfl, ⟨nd, rfl⟩⟩
 go_wp2_with fail
 refine start_ (n := 9) (S := fun w' => w'.cell? ⟨w.heap.size, 0, none⟩ = some (.int .i64 y) ∧ w'.cell? ⟨w.heap.size, 1, none⟩ = some (.int .i64 m) ∧ w'.cell? ⟨w.heap.size, 2, none⟩ = some (.int .i64 d)) (ds := [4]) #[false, false, false, false, false, false, false, false, false] (by kernel_rfl) rfl rfl ⟨by go_simp, by go_simp, by go_simp⟩ (fun hHeld => ?_)
 refine with_tabW tab3 bits3 (fun HT_ HW_ => ?_)
 have B : Below w.heap.size w _ := (by repeat (with_reducible first | exact Below.refl _ _ | apply below_drew | apply pw_below_drewN | apply below_alloc) : Below w.heap.size w (((w.alloc (.cells #[.int .i64 y, .int .i64 m, .int .i64 d] 41 (0, 0))).drewN nd).drew))
 generalize ((w.alloc (.cells #[.int .i64 y, .int .i64 m, .int .i64 d] 41 (0, 0))).drewN nd).drew = w2 at B hHeld ⊢
 replace B := Lib.hid B
 refine pure_ (i := 0) (N := some 9) (v := ?_) (a' := ?_) #[true, false, false, false, false, false, false, false, false] rfl rfl (any_of HT_.out (by kernel_rfl)) (fun _ _ _ h => h) (Or.inl ⟨by rfl, ?_⟩) ?_ ?_
 rotate_left
 ·intro w'
  go_simp
  with_reducible rfl
 rotate_left
 ·simp only [Act.put, sA, sB, sC, i64_w, i32_w]
  rfl
 refine pure_ (i := 1) (N := some 10) (v := ?_) (a' := ?_) #[true, true, false, false, false, false, false, false, false] rfl rfl (any_of HT_.out (by kernel_rfl)) (fun _ _ _ h => h) (Or.inl ⟨by rfl, ?_⟩) ?_ ?_
 rotate_left
 ·intro w'
  go_simp
  with_reducible rfl
 rotate_left
 ·simp only [Act.put, sA, sB, sC, i64_w, i32_w]
  rfl
 refine pure_ (i := 2) (N := some 11) (v := ?_) (a' := ?_) #[true, true, true, false, false, false, false, false, false] rfl rfl (any_of HT_.out (by kernel_rfl)) (fun _ _ _ h => h) (Or.inl ⟨by rfl, ?_⟩) ?_ ?_
 rotate_left
 ·intro w'
  go_simp
  with_reducible rfl
 rotate_left
 ·simp only [Act.put, sA, sB, sC, i64_w, i32_w]
  rfl
 refine take_ (i := 3) (N := some 12) (v := ?_) (a' := ?_) #[true, true, true, true, false, false, false, false, false] rfl rfl (take_ofW HT_.out HW_.out (by kernel_rfl)) (fun _ _ _ h => h) (Or.inl ⟨by rfl, ?_⟩) hHeld ?_ ?_
 rotate_left
 ·rintro w' ⟨s0, s1, s2⟩
  go_simp
  with_reducible rfl
 rotate_left
 ·simp only [Act.put, sA, sB, sC, i64_w, i32_w]
  rfl
 refine last_ (i := 4) (N := some 13) #[true, true, true, true, true, false, false, false, false] rfl rfl (one_of HT_.out (by kernel_rfl)) (by decide) (fun K hK => ?_)
 have he := enters_ Tryz.func26 (by kernel_rfl) rfl #[.agg #[.int .i64 y, .int .i64 m, .int .i64 d]] w2
 refine call_ 26 #[.agg #[.int .i64 y, .int .i64 m, .int .i64 d]] (by rfl) rfl (by unfold execOp; simp [resolve, Deferred.ofValue, invoke, Act.eval, he]) ?_
 clear he
 refine (iso_FromISO.calls 40 y m d r1 r2 w2 H.out).mono ?_
 rintro e w3 ⟨rfl, hb⟩
 refine ⟨_, rfl, ?_⟩
 replace B := Lib.hid (below_then B.out B.out.size hb)
 clear hb
 refine hK.out _ _ ?_
 clear hK K
 refine norm_ (a' := ?_) ?_ ?_
 rotate_left
 ·show Act.put _ (some 13) _ = _
  simp only [Act.put, sA, sB, sC, i64_w, i32_w]
  rfl
 refine pure_ (i := 5) (N := some 14) (v := ?_) (a' := ?_) #[true, true, true, true, true, true, false, false, false] rfl rfl (any_of HT_.out (by kernel_rfl)) (fun _ _ _ h => h) (Or.inl ⟨by rfl, ?_⟩) ?_ ?_
 rotate_left
 ·intro w'
  go_simp
  with_reducible rfl
 rotate_left
 ·simp only [Act.put, sA, sB, sC, i64_w, i32_w]
  rfl
 refine pure_ (i := 6) (N := some 15) (v := ?_) (a' := ?_) #[true, true, true, true, true, true, true, false, false] rfl rfl (any_of HT_.out (by kernel_rfl)) (fun _ _ _ h => h) (Or.inl ⟨by rfl, ?_⟩) ?_ ?_
 rotate_left
 ·intro w'
  go_simp
  with_reducible rfl
 rotate_left
 ·simp only [Act.put, sA, sB, sC, i64_w, i32_w]
  rfl
 refine pure_ (i := 7) (N := some 4) (v := ?_) (a' := ?_) #[true, true, true, true, true, true, true, true, false] rfl rfl (any_of HT_.out (by kernel_rfl)) (fun _ _ _ h => h) (Or.inl ⟨by rfl, ?_⟩) ?_ ?_
 rotate_left
 ·intro w'
  go_simp
  with_reducible rfl
 rotate_left
 ·simp only [Act.put, sA, sB, sC, i64_w, i32_w]
  rfl
 refine pure_ (i := 8) (N := some 5) (v := ?_) (a' := ?_) #[true, true, true, true, true, true, true, true, true] rfl rfl (any_of HT_.out (by kernel_rfl)) (fun _ _ _ h => h) (Or.inl ⟨by rfl, ?_⟩) ?_ ?_
 rotate_left
 ·intro w'
  go_simp
  with_reducible rfl
 rotate_left
 ·simp only [Act.put, sA, sB, sC, i64_w, i32_w]
  rfl
 refine done_ (done_of HT_.out (by kernel_rfl)) ?_
 clear HT_ HW_
 go_wp2_with fail
 go_ret2
 exact ⟨rfl, B.out⟩
theorem ix3 (w : World) : (Instr.index 53 (.agg #[.func (.func 24) #[] #[], .func (.func 25) #[] #[], .func (.func 26) #[] #[], .func (.func 27) #[] #[], .func (.func 28) #[] #[], .func (.func 29) #[] #[], .func (.func 30) #[] #[]]) (.int .i64 3)).run Tryz.prog w = .ok (.func (.func 27) #[] #[]) w := by kernel_rfl
attribute [local go_sem] ix3
set_option maxHeartbeats 4000000 in
set_option maxRecDepth 100000 in
theorem walk3 (y m d r1 r2 : Int) (w : World) (h : hebrew_FromHebrew.f 40 y m d = some (r1, r2)) :
  Calls Tryz.prog 15 #[.int .i64 3, .agg #[.int .i64 y, .int .i64 m, .int .i64 d]] w fun e w' => e = .returned (.tuple #[.int .i64 r1, .int .i64 r2]) ∧ Below w.heap.size w w' := by
 have H := Lib.hid h
 clear h
 go_enter Tryz.func15, Tryz.ntmps15
 go_wp2_with fail
 refine (show_is.calls 3 true _ (by decide)).mono ?_
 rintro e w1 ⟨rfl, ⟨nd, rfl⟩⟩
 go_wp2_with fail
 refine start_ (n := 9) (S := fun w' => w'.cell? ⟨w.heap.size, 0, none⟩ = some (.int .i64 y) ∧ w'.cell? ⟨w.heap.size, 1, none⟩ = some (.int .i64 m) ∧ w'.cell? ⟨w.heap.size, 2, none⟩ = some (.int .i64 d)) (ds := [4]) #[false, false, false, false, false, false, false, false, false] (by kernel_rfl) rfl rfl ⟨by go_simp, by go_simp, by go_simp⟩ (fun hHeld => ?_)
 refine with_tabW tab3 bits3 (fun HT_ HW_ => ?_)
 have B : Below w.heap.size w _ := (by repeat (with_reducible first | exact Below.refl _ _ | apply below_drew | apply pw_below_drewN | apply below_alloc) : Below w.heap.size w (((w.alloc (.cells #[.int .i64 y, .int .i64 m, .int .i64 d] 41 (0, 0))).drewN nd).drew))
 generalize ((w.alloc (.cells #[.int .i64 y, .int .i64 m, .int .i64 d] 41 (0, 0))).drewN nd).drew = w2 at B hHeld ⊢
 replace B := Lib.hid B
 refine pure_ (i := 0) (N := some 9) (v := ?_) (a' := ?_) #[true, false, false, false, false, false, false, false, false] rfl rfl (any_of HT_.out (by kernel_rfl)) (fun _ _ _ h => h) (Or.inl ⟨by rfl, ?_⟩) ?_ ?_
 rotate_left
 ·intro w'
  go_simp
  with_reducible rfl
 rotate_left
 ·simp only [Act.put, sA, sB, sC, i64_w, i32_w]
  rfl
 refine pure_ (i := 1) (N := some 10) (v := ?_) (a' := ?_) #[true, true, false, false, false, false, false, false, false] rfl rfl (any_of HT_.out (by kernel_rfl)) (fun _ _ _ h => h) (Or.inl ⟨by rfl, ?_⟩) ?_ ?_
 rotate_left
 ·intro w'
  go_simp
  with_reducible rfl
 rotate_left
 ·simp only [Act.put, sA, sB, sC, i64_w, i32_w]
  rfl
 refine pure_ (i := 2) (N := some 11) (v := ?_) (a' := ?_) #[true, true, true, false, false, false, false, false, false] rfl rfl (any_of HT_.out (by kernel_rfl)) (fun _ _ _ h => h) (Or.inl ⟨by rfl, ?_⟩) ?_ ?_
 rotate_left
 ·intro w'
  go_simp
  with_reducible rfl
 rotate_left
 ·simp only [Act.put, sA, sB, sC, i64_w, i32_w]
  rfl
 refine take_ (i := 3) (N := some 12) (v := ?_) (a' := ?_) #[true, true, true, true, false, false, false, false, false] rfl rfl (take_ofW HT_.out HW_.out (by kernel_rfl)) (fun _ _ _ h => h) (Or.inl ⟨by rfl, ?_⟩) hHeld ?_ ?_
 rotate_left
 ·rintro w' ⟨s0, s1, s2⟩
  go_simp
  with_reducible rfl
 rotate_left
 ·simp only [Act.put, sA, sB, sC, i64_w, i32_w]
  rfl
 refine last_ (i := 4) (N := some 13) #[true, true, true, true, true, false, false, false, false] rfl rfl (one_of HT_.out (by kernel_rfl)) (by decide) (fun K hK => ?_)
 have he := enters_ Tryz.func27 (by kernel_rfl) rfl #[.agg #[.int .i64 y, .int .i64 m, .int .i64 d]] w2
 refine call_ 27 #[.agg #[.int .i64 y, .int .i64 m, .int .i64 d]] (by rfl) rfl (by unfold execOp; simp [resolve, Deferred.ofValue, invoke, Act.eval, he]) ?_
 clear he
 refine (hebrew_FromHebrew.calls 40 y m d r1 r2 w2 H.out).mono ?_
 rintro e w3 ⟨rfl, hb⟩
 refine ⟨_, rfl, ?_⟩
 replace B := Lib.hid (below_then B.out B.out.size hb)
 clear hb
 refine hK.out _ _ ?_
 clear hK K
 refine norm_ (a' := ?_) ?_ ?_
 rotate_left
 ·show Act.put _ (some 13) _ = _
  simp only [Act.put, sA, sB, sC, i64_w, i32_w]
  rfl
 refine pure_ (i := 5) (N := some 14) (v := ?_) (a' := ?_) #[true, true, true, true, true, true, false, false, false] rfl rfl (any_of HT_.out (by kernel_rfl)) (fun _ _ _ h => h) (Or.inl ⟨by rfl, ?_⟩) ?_ ?_
 rotate_left
 ·intro w'
  go_simp
  with_reducible rfl
 rotate_left
 ·simp only [Act.put, sA, sB, sC, i64_w, i32_w]
  rfl
 refine pure_ (i := 6) (N := some 15) (v := ?_) (a' := ?_) #[true, true, true, true, true, true, true, false, false] rfl rfl (any_of HT_.out (by kernel_rfl)) (fun _ _ _ h => h) (Or.inl ⟨by rfl, ?_⟩) ?_ ?_
 rotate_left
 ·intro w'
  go_simp
  with_reducible rfl
 rotate_left
 ·simp only [Act.put, sA, sB, sC, i64_w, i32_w]
  rfl
 refine pure_ (i := 7) (N := some 4) (v := ?_) (a' := ?_) #[true, true, true, true, true, true, true, true, false] rfl rfl (any_of HT_.out (by kernel_rfl)) (fun _ _ _ h => h) (Or.inl ⟨by rfl, ?_⟩) ?_ ?_
 rotate_left
 ·intro w'
  go_simp
  with_reducible rfl
 rotate_left
 ·simp only [Act.put, sA, sB, sC, i64_w, i32_w]
  rfl
 refine pure_ (i := 8) (N := some 5) (v := ?_) (a' := ?_) #[true, true, true, true, true, true, true, true, true] rfl rfl (any_of HT_.out (by kernel_rfl)) (fun _ _ _ h => h) (Or.inl ⟨by rfl, ?_⟩) ?_ ?_
 rotate_left
 ·intro w'
  go_simp
  with_reducible rfl
 rotate_left
 ·simp only [Act.put, sA, sB, sC, i64_w, i32_w]
  rfl
 refine done_ (done_of HT_.out (by kernel_rfl)) ?_
 clear HT_ HW_
 go_wp2_with fail
 go_ret2
 exact ⟨rfl, B.out⟩
theorem ix4 (w : World) : (Instr.index 53 (.agg #[.func (.func 24) #[] #[], .func (.func 25) #[] #[], .func (.func 26) #[] #[], .func (.func 27) #[] #[], .func (.func 28) #[] #[], .func (.func 29) #[] #[], .func (.func 30) #[] #[]]) (.int .i64 4)).run Tryz.prog w = .ok (.func (.func 28) #[] #[]) w := by kernel_rfl
attribute [local go_sem] ix4
set_option maxHeartbeats 4000000 in
set_option maxRecDepth 100000 in
theorem walk4 (y m d r1 r2 : Int) (w : World) (h : islam_FromIslamic.f 40 y m d = some (r1, r2)) :
  Calls Tryz.prog 15 #[.int .i64 4, .agg #[.int .i64 y, .int .i64 m, .int .i64 d]] w fun e w' => e = .returned (.tuple #[.int .i64 r1, .int .i64 r2]) ∧ Below w.heap.size w w' := by
 have H := Lib.hid h
 clear h
 go_enter Tryz.func15, Tryz.ntmps15
 go_wp2_with fail
 refine (show_is.calls 4 true _ (by decide)).mono ?_
 rintro e w1 ⟨rfl, ⟨nd, rfl⟩⟩
 go_wp2_with fail
 refine start_ (n := 9) (S := fun w' => w'.cell? ⟨w.heap.size, 0, none⟩ = some (.int .i64 y) ∧ w'.cell? ⟨w.heap.size, 1, none⟩ = some (.int .i64 m) ∧ w'.cell? ⟨w.heap.size, 2, none⟩ = some (.int .i64 d)) (ds := [4]) #[false, false, false, false, false, false, false, false, false] (by kernel_rfl) rfl rfl ⟨by go_simp, by go_simp, by go_simp⟩ (fun hHeld => ?_)
 refine with_tabW tab3 bits3 (fun HT_ HW_ => ?_)
 have B : Below w.heap.size w _ := (by repeat (with_reducible first | exact Below.refl _ _ | apply below_drew | apply pw_below_drewN | apply below_alloc) : Below w.heap.size w (((w.alloc (.cells #[.int .i64 y, .int .i64 m, .int .i64 d] 41 (0, 0))).drewN nd).drew))
 generalize ((w.alloc (.cells #[.int .i64 y, .int .i64 m, .int .i64 d] 41 (0, 0))).drewN nd).drew = w2 at B hHeld ⊢
 replace B := Lib.hid B
 refine pure_ (i := 0) (N := some 9) (v := ?_) (a' := ?_) #[true, false, false, false, false, false, false, false, false] rfl rfl (any_of HT_.out (by kernel_rfl)) (fun _ _ _ h => h) (Or.inl ⟨by rfl, ?_⟩) ?_ ?_
 rotate_left
 ·intro w'
  go_simp
  with_reducible rfl
 rotate_left
 ·simp only [Act.put, sA, sB, sC, i64_w, i32_w]
  rfl
 refine pure_ (i := 1) (N := some 10) (v := ?_) (a' := ?_) #[true, true, false, false, false, false, false, false, false] rfl rfl (any_of HT_.out (by kernel_rfl)) (fun _ _ _ h => h) (Or.inl ⟨by rfl, ?_⟩) ?_ ?_
 rotate_left
 ·intro w'
  go_simp
  with_reducible rfl
 rotate_left
 ·simp only [Act.put, sA, sB, sC, i64_w, i32_w]
  rfl
 refine pure_ (i := 2) (N := some 11) (v := ?_) (a' := ?_) #[true, true, true, false, false, false, false, false, false] rfl rfl (any_of HT_.out (by kernel_rfl)) (fun _ _ _ h => h) (Or.inl ⟨by rfl, ?_⟩) ?_ ?_
 rotate_left
 ·intro w'
  go_simp
  with_reducible rfl
 rotate_left
 ·simp only [Act.put, sA, sB, sC, i64_w, i32_w]
  rfl
 refine take_ (i := 3) (N := some 12) (v := ?_) (a' := ?_) #[true, true, true, true, false, false, false, false, false] rfl rfl (take_ofW HT_.out HW_.out (by kernel_rfl)) (fun _ _ _ h => h) (Or.inl ⟨by rfl, ?_⟩) hHeld ?_ ?_
 rotate_left
 ·rintro w' ⟨s0, s1, s2⟩
  go_simp
  with_reducible rfl
 rotate_left
 ·simp only [Act.put, sA, sB, sC, i64_w, i32_w]
  rfl
 refine last_ (i := 4) (N := some 13) #[true, true, true, true, true, false, false, false, false] rfl rfl (one_of HT_.out (by kernel_rfl)) (by decide) (fun K hK => ?_)
 have he := enters_ Tryz.func28 (by kernel_rfl) rfl #[.agg #[.int .i64 y, .int .i64 m, .int .i64 d]] w2
 refine call_ 28 #[.agg #[.int .i64 y, .int .i64 m, .int .i64 d]] (by rfl) rfl (by unfold execOp; simp [resolve, Deferred.ofValue, invoke, Act.eval, he]) ?_
 clear he
 refine (islam_FromIslamic.calls 40 y m d r1 r2 w2 H.out).mono ?_
 rintro e w3 ⟨rfl, hb⟩
 refine ⟨_, rfl, ?_⟩
 replace B := Lib.hid (below_then B.out B.out.size hb)
 clear hb
 refine hK.out _ _ ?_
 clear hK K
 refine norm_ (a' := ?_) ?_ ?_
 rotate_left
 ·show Act.put _ (some 13) _ = _
  simp only [Act.put, sA, sB, sC, i64_w, i32_w]
  rfl
 refine pure_ (i := 5) (N := some 14) (v := ?_) (a' := ?_) #[true, true, true, true, true, true, false, false, false] rfl rfl (any_of HT_.out (by kernel_rfl)) (fun _ _ _ h => h) (Or.inl ⟨by rfl, ?_⟩) ?_ ?_
 rotate_left
 ·intro w'
  go_simp
  with_reducible rfl
 rotate_left
 ·simp only [Act.put, sA, sB, sC, i64_w, i32_w]
  rfl
 refine pure_ (i := 6) (N := some 15) (v := ?_) (a' := ?_) #[true, true, true, true, true, true, true, false, false] rfl rfl (any_of HT_.out (by kernel_rfl)) (fun _ _ _ h => h) (Or.inl ⟨by rfl, ?_⟩) ?_ ?_
 rotate_left
 ·intro w'
  go_simp
  with_reducible rfl
 rotate_left
 ·simp only [Act.put, sA, sB, sC, i64_w, i32_w]
  rfl
 refine pure_ (i := 7) (N := some 4) (v := ?_) (a' := ?_) #[true, true, true, true, true, true, true, true, false] rfl rfl (any_of HT_.out (by kernel_rfl)) (fun _ _ _ h => h) (Or.inl ⟨by rfl, ?_⟩) ?_ ?_
 rotate_left
 ·intro w'
  go_simp
  with_reducible rfl
 rotate_left
 ·simp only [Act.put, sA, sB, sC, i64_w, i32_w]
  rfl
 refine pure_ (i := 8) (N := some 5) (v := ?_) (a' := ?_) #[true, true, true, true, true, true, true, true, true] rfl rfl (any_of HT_.out (by kernel_rfl)) (fun _ _ _ h => h) (Or.inl ⟨by rfl, ?_⟩) ?_ ?_
 rotate_left
 ·intro w'
  go_simp
  with_reducible rfl
 rotate_left
 ·simp only [Act.put, sA, sB, sC, i64_w, i32_w]
  rfl
 refine done_ (done_of HT_.out (by kernel_rfl)) ?_
 clear HT_ HW_
 go_wp2_with fail
 go_ret2
 exact ⟨rfl, B.out⟩
theorem ix5 (w : World) : (Instr.index 53 (.agg #[.func (.func 24) #[] #[], .func (.func 25) #[] #[], .func (.func 26) #[] #[], .func (.func 27) #[] #[], .func (.func 28) #[] #[], .func (.func 29) #[] #[], .func (.func 30) #[] #[]]) (.int .i64 5)).run Tryz.prog w = .ok (.func (.func 29) #[] #[]) w := by kernel_rfl
attribute [local go_sem] ix5
set_option maxHeartbeats 4000000 in
set_option maxRecDepth 100000 in
theorem walk5 (y m d r1 r2 : Int) (w : World) (h : persian_FromPersian.f 40 y m d = some (r1, r2)) :
  Calls Tryz.prog 15 #[.int .i64 5, .agg #[.int .i64 y, .int .i64 m, .int .i64 d]] w fun e w' => e = .returned (.tuple #[.int .i64 r1, .int .i64 r2]) ∧ Below w.heap.size w w' := by
 have H := Lib.hid h
 clear h
 go_enter Tryz.func15, Tryz.ntmps15
 go_wp2_with fail
 refine (show_is.calls 5 true _ (by decide)).mono ?_
 rintro e w1 ⟨rfl, ⟨nd, rfl⟩⟩
 go_wp2_with fail
 refine start_ (n := 9) (S := fun w' => w'.cell? ⟨w.heap.size, 0, none⟩ = some (.int .i64 y) ∧ w'.cell? ⟨w.heap.size, 1, none⟩ = some (.int .i64 m) ∧ w'.cell? ⟨w.heap.size, 2, none⟩ = some (.int .i64 d)) (ds := [4]) #[false, false, false, false, false, false, false, false, false] (by kernel_rfl) rfl rfl ⟨by go_simp, by go_simp, by go_simp⟩ (fun hHeld => ?_)
 refine with_tabW tab3 bits3 (fun HT_ HW_ => ?_)
 have B : Below w.heap.size w _ := (by repeat (with_reducible first | exact Below.refl _ _ | apply below_drew | apply pw_below_drewN | apply below_alloc) : Below w.heap.size w (((w.alloc (.cells #[.int .i64 y, .int .i64 m, .int .i64 d] 41 (0, 0))).drewN nd).drew))
 generalize ((w.alloc (.cells #[.int .i64 y, .int .i64 m, .int .i64 d] 41 (0, 0))).drewN nd).drew = w2 at B hHeld ⊢
 replace B := Lib.hid B
 refine pure_ (i := 0) (N := some 9) (v := ?_) (a' := ?_) #[true, false, false, false, false, false, false, false, false] rfl rfl (any_of HT_.out (by kernel_rfl)) (fun _ _ _ h => h) (Or.inl ⟨by rfl, ?_⟩) ?_ ?_
 rotate_left
 ·intro w'
  go_simp
  with_reducible rfl
 rotate_left
 ·simp only [Act.put, sA, sB, sC, i64_w, i32_w]
  rfl
 refine pure_ (i := 1) (N := some 10) (v := ?_) (a' := ?_) #[true, true, false, false, false, false, false, false, false] rfl rfl (any_of HT_.out (by kernel_rfl)) (fun _ _ _ h => h) (Or.inl ⟨by rfl, ?_⟩) ?_ ?_
 rotate_left
 ·intro w'
  go_simp
  with_reducible rfl
 rotate_left
 ·simp only [Act.put, sA, sB, sC, i64_w, i32_w]
  rfl
 refine pure_ (i := 2) (N := some 11) (v := ?_) (a' := ?_) #[true, true, true, false, false, false, false, false, false] rfl rfl (any_of HT_.out (by kernel_rfl)) (fun _ _ _ h => h) (Or.inl ⟨by rfl, ?_⟩) ?_ ?_
 rotate_left
 ·intro w'
  go_simp
  with_reducible rfl
 rotate_left
 ·simp only [Act.put, sA, sB, sC, i64_w, i32_w]
  rfl
 refine take_ (i := 3) (N := some 12) (v := ?_) (a' := ?_) #[true, true, true, true, false, false, false, false, false] rfl rfl (take_ofW HT_.out HW_.out (by kernel_rfl)) (fun _ _ _ h => h) (Or.inl ⟨by rfl, ?_⟩) hHeld ?_ ?_
 rotate_left
 ·rintro w' ⟨s0, s1, s2⟩
  go_simp
  with_reducible rfl
 rotate_left
 ·simp only [Act.put, sA, sB, sC, i64_w, i32_w]
  rfl
 refine last_ (i := 4) (N := some 13) #[true, true, true, true, true, false, false, false, false] rfl rfl (one_of HT_.out (by kernel_rfl)) (by decide) (fun K hK => ?_)
 have he := enters_ Tryz.func29 (by kernel_rfl) rfl #[.agg #[.int .i64 y, .int .i64 m, .int .i64 d]] w2
 refine call_ 29 #[.agg #[.int .i64 y, .int .i64 m, .int .i64 d]] (by rfl) rfl (by unfold execOp; simp [resolve, Deferred.ofValue, invoke, Act.eval, he]) ?_
 clear he
 refine (persian_FromPersian.calls 40 y m d r1 r2 w2 H.out).mono ?_
 rintro e w3 ⟨rfl, hb⟩
 refine ⟨_, rfl, ?_⟩
 replace B := Lib.hid (below_then B.out B.out.size hb)
 clear hb
 refine hK.out _ _ ?_
 clear hK K
 refine norm_ (a' := ?_) ?_ ?_
 rotate_left
 ·show Act.put _ (some 13) _ = _
  simp only [Act.put, sA, sB, sC, i64_w, i32_w]
  rfl
 refine pure_ (i := 5) (N := some 14) (v := ?_) (a' := ?_) #[true, true, true, true, true, true, false, false, false] rfl rfl (any_of HT_.out (by kernel_rfl)) (fun _ _ _ h => h) (Or.inl ⟨by rfl, ?_⟩) ?_ ?_
 rotate_left
 ·intro w'
  go_simp
  with_reducible rfl
 rotate_left
 ·simp only [Act.put, sA, sB, sC, i64_w, i32_w]
  rfl
 refine pure_ (i := 6) (N := some 15) (v := ?_) (a' := ?_) #[true, true, true, true, true, true, true, false, false] rfl rfl (any_of HT_.out (by kernel_rfl)) (fun _ _ _ h => h) (Or.inl ⟨by rfl, ?_⟩) ?_ ?_
 rotate_left
 ·intro w'
  go_simp
  with_reducible rfl
 rotate_left
 ·simp only [Act.put, sA, sB, sC, i64_w, i32_w]
  rfl
 refine pure_ (i := 7) (N := some 4) (v := ?_) (a' := ?_) #[true, true, true, true, true, true, true, true, false] rfl rfl (any_of HT_.out (by kernel_rfl)) (fun _ _ _ h => h) (Or.inl ⟨by rfl, ?_⟩) ?_ ?_
 rotate_left
 ·intro w'
  go_simp
  with_reducible rfl
 rotate_left
 ·simp only [Act.put, sA, sB, sC, i64_w, i32_w]
  rfl
 refine pure_ (i := 8) (N := some 5) (v := ?_) (a' := ?_) #[true, true, true, true, true, true, true, true, true] rfl rfl (any_of HT_.out (by kernel_rfl)) (fun _ _ _ h => h) (Or.inl ⟨by rfl, ?_⟩) ?_ ?_
 rotate_left
 ·intro w'
  go_simp
  with_reducible rfl
 rotate_left
 ·simp only [Act.put, sA, sB, sC, i64_w, i32_w]
  rfl
 refine done_ (done_of HT_.out (by kernel_rfl)) ?_
 clear HT_ HW_
 go_wp2_with fail
 go_ret2
 exact ⟨rfl, B.out⟩
theorem ix6 (w : World) : (Instr.index 53 (.agg #[.func (.func 24) #[] #[], .func (.func 25) #[] #[], .func (.func 26) #[] #[], .func (.func 27) #[] #[], .func (.func 28) #[] #[], .func (.func 29) #[] #[], .func (.func 30) #[] #[]]) (.int .i64 6)).run Tryz.prog w = .ok (.func (.func 30) #[] #[]) w := by kernel_rfl
attribute [local go_sem] ix6
set_option maxHeartbeats 4000000 in
set_option maxRecDepth 100000 in
theorem walk6 (y m d r1 r2 : Int) (w : World) (h : julian_FromCoptic.f 40 y m d = some (r1, r2)) :
  Calls Tryz.prog 15 #[.int .i64 6, .agg #[.int .i64 y, .int .i64 m, .int .i64 d]] w fun e w' => e = .returned (.tuple #[.int .i64 r1, .int .i64 r2]) ∧ Below w.heap.size w w' := by
 have H := Lib.hid h
 clear h
 go_enter Tryz.func15, Tryz.ntmps15
 go_wp2_with fail
 refine (show_is.calls 6 true _ (by decide)).mono ?_
 rintro e w1 ⟨rfl, ⟨nd, rfl⟩⟩
 go_wp2_with fail
 refine start_ (n := 9) (S := fun w' => w'.cell? ⟨w.heap.size, 0, none⟩ = some (.int .i64 y) ∧ w'.cell? ⟨w.heap.size, 1, none⟩ = some (.int .i64 m) ∧ w'.cell? ⟨w.heap.size, 2, none⟩ = some (.int .i64 d)) (ds := [4]) #[false, false, false, false, false, false, false, false, false] (by kernel_rfl) rfl rfl ⟨by go_simp, by go_simp, by go_simp⟩ (fun hHeld => ?_)
 refine with_tabW tab3 bits3 (fun HT_ HW_ => ?_)
 have B : Below w.heap.size w _ := (by repeat (with_reducible first | exact Below.refl _ _ | apply below_drew | apply pw_below_drewN | apply below_alloc) : Below w.heap.size w (((w.alloc (.cells #[.int .i64 y, .int .i64 m, .int .i64 d] 41 (0, 0))).drewN nd).drew))
 generalize ((w.alloc (.cells #[.int .i64 y, .int .i64 m, .int .i64 d] 41 (0, 0))).drewN nd).drew = w2 at B hHeld ⊢
 replace B := Lib.hid B
 refine pure_ (i := 0) (N := some 9) (v := ?_) (a' := ?_) #[true, false, false, false, false, false, false, false, false] rfl rfl (any_of HT_.out (by kernel_rfl)) (fun _ _ _ h => h) (Or.inl ⟨by rfl, ?_⟩) ?_ ?_
 rotate_left
 ·intro w'
  go_simp
  with_reducible rfl
 rotate_left
 ·simp only [Act.put, sA, sB, sC, i64_w, i32_w]
  rfl
 refine pure_ (i := 1) (N := some 10) (v := ?_) (a' := ?_) #[true, true, false, false, false, false, false, false, false] rfl rfl (any_of HT_.out (by kernel_rfl)) (fun _ _ _ h => h) (Or.inl ⟨by rfl, ?_⟩) ?_ ?_
 rotate_left
 ·intro w'
  go_simp
  with_reducible rfl
 rotate_left
 ·simp only [Act.put, sA, sB, sC, i64_w, i32_w]
  rfl
 refine pure_ (i := 2) (N := some 11) (v := ?_) (a' := ?_) #[true, true, true, false, false, false, false, false, false] rfl rfl (any_of HT_.out (by kernel_rfl)) (fun _ _ _ h => h) (Or.inl ⟨by rfl, ?_⟩) ?_ ?_
 rotate_left
 ·intro w'
  go_simp
  with_reducible rfl
 rotate_left
 ·simp only [Act.put, sA, sB, sC, i64_w, i32_w]
  rfl
 refine take_ (i := 3) (N := some 12) (v := ?_) (a' := ?_) #[true, true, true, true, false, false, false, false, false] rfl rfl (take_ofW HT_.out HW_.out (by kernel_rfl)) (fun _ _ _ h => h) (Or.inl ⟨by rfl, ?_⟩) hHeld ?_ ?_
 rotate_left
 ·rintro w' ⟨s0, s1, s2⟩
  go_simp
  with_reducible rfl
 rotate_left
 ·simp only [Act.put, sA, sB, sC, i64_w, i32_w]
  rfl
 refine last_ (i := 4) (N := some 13) #[true, true, true, true, true, false, false, false, false] rfl rfl (one_of HT_.out (by kernel_rfl)) (by decide) (fun K hK => ?_)
 have he := enters_ Tryz.func30 (by kernel_rfl) rfl #[.agg #[.int .i64 y, .int .i64 m, .int .i64 d]] w2
 refine call_ 30 #[.agg #[.int .i64 y, .int .i64 m, .int .i64 d]] (by rfl) rfl (by unfold execOp; simp [resolve, Deferred.ofValue, invoke, Act.eval, he]) ?_
 clear he
 refine (julian_FromCoptic.calls 40 y m d r1 r2 w2 H.out).mono ?_
 rintro e w3 ⟨rfl, hb⟩
 refine ⟨_, rfl, ?_⟩
 replace B := Lib.hid (below_then B.out B.out.size hb)
 clear hb
 refine hK.out _ _ ?_
 clear hK K
 refine norm_ (a' := ?_) ?_ ?_
 rotate_left
 ·show Act.put _ (some 13) _ = _
  simp only [Act.put, sA, sB, sC, i64_w, i32_w]
  rfl
 refine pure_ (i := 5) (N := some 14) (v := ?_) (a' := ?_) #[true, true, true, true, true, true, false, false, false] rfl rfl (any_of HT_.out (by kernel_rfl)) (fun _ _ _ h => h) (Or.inl ⟨by rfl, ?_⟩) ?_ ?_
 rotate_left
 ·intro w'
  go_simp
  with_reducible rfl
 rotate_left
 ·simp only [Act.put, sA, sB, sC, i64_w, i32_w]
  rfl
 refine pure_ (i := 6) (N := some 15) (v := ?_) (a' := ?_) #[true, true, true, true, true, true, true, false, false] rfl rfl (any_of HT_.out (by kernel_rfl)) (fun _ _ _ h => h) (Or.inl ⟨by rfl, ?_⟩) ?_ ?_
 rotate_left
 ·intro w'
  go_simp
  with_reducible rfl
 rotate_left
 ·simp only [Act.put, sA, sB, sC, i64_w, i32_w]
  rfl
 refine pure_ (i := 7) (N := some 4) (v := ?_) (a' := ?_) #[true, true, true, true, true, true, true, true, false] rfl rfl (any_of HT_.out (by kernel_rfl)) (fun _ _ _ h => h) (Or.inl ⟨by rfl, ?_⟩) ?_ ?_
 rotate_left
 ·intro w'
  go_simp
  with_reducible rfl
 rotate_left
 ·simp only [Act.put, sA, sB, sC, i64_w, i32_w]
  rfl
 refine pure_ (i := 8) (N := some 5) (v := ?_) (a' := ?_) #[true, true, true, true, true, true, true, true, true] rfl rfl (any_of HT_.out (by kernel_rfl)) (fun _ _ _ h => h) (Or.inl ⟨by rfl, ?_⟩) ?_ ?_
 rotate_left
 ·intro w'
  go_simp
  with_reducible rfl
 rotate_left
 ·simp only [Act.put, sA, sB, sC, i64_w, i32_w]
  rfl
 refine done_ (done_of HT_.out (by kernel_rfl)) ?_
 clear HT_ HW_
 go_wp2_with fail
 go_ret2
 exact ⟨rfl, B.out⟩
end Go.Proofs.YtgbbgcepcnklkaaGreatDoor.ShowDay
/- Plain laws of the Gregorian, Julian, Coptic and ISO calendars over whole numbers: no program in sight. -/
namespace Go.Proofs.YtgbbgcepcnklkaaGreatDoor.Cal
open Go.RowKit
theorem w64 {x : Int} (h : -9223372036854775808 ≤ x) (h' : x ≤ 9223372036854775807) : wrap64 x = x := by
 unfold wrap64; omega

/-- Days ahead of a Gregorian year. -/
def ah (y : Int) : Int := 365 * (y - 1) + (y - 1) / 4 - (y - 1) / 100 + (y - 1) / 400
/-- 1 in a leap year, else 0. -/
def lp (y : Int) : Int := if y % 4 = 0 then (if y % 100 = 0 then (if y % 400 = 0 then 1 else 0) else 1) else 0
theorem lp_01 (y : Int) : lp y = 0 ∨ lp y = 1 := by
 unfold lp; repeat' split
 all_goals first | exact Or.inl rfl | exact Or.inr rfl
theorem ah_succ (y : Int) : ah (y + 1) = ah y + 365 + lp y := by
 unfold ah lp
 split
 ·split
  ·split <;> omega
  ·omega
 ·omega
theorem ah_mono (a : Int) : ∀ n : Nat, ah a + 365 * n ≤ ah (a + n)
 | 0 => by simp
 | n + 1 => by
  have h := ah_mono a n
  have h1 := ah_succ (a + n)
  have h2 := lp_01 (a + n)
  have e : a + ((n + 1 : Nat) : Int) = a + n + 1 := by omega
  rw [e]; omega
theorem ah_le {a b : Int} (h : a ≤ b) : ah a + 365 * (b - a) ≤ ah b := by
 have := ah_mono a (b - a).toNat
 have e : a + ((b - a).toNat : Int) = b := by omega
 rw [e] at this; omega

/-- Days of a year ahead of a month; l: 1 in a leap year. -/
def cum (l m : Int) : Int := (367 * m - 362) / 12 - (if m > 2 then 2 - l else 0)
/-- Days of a month. -/
def dim (l m : Int) : Int :=
 if m = 2 then 28 + l else if m = 4 ∨ m = 6 ∨ m = 9 ∨ m = 11 then 30 else if 1 ≤ m ∧ m ≤ 12 then 31 else 0
theorem months {m : Int} (h1 : 1 ≤ m) (h2 : m ≤ 12) : m = 1 ∨ m = 2 ∨ m = 3 ∨ m = 4 ∨ m = 5 ∨ m = 6 ∨ m = 7 ∨ m = 8 ∨ m = 9 ∨ m = 10 ∨ m = 11 ∨ m = 12 := by omega
theorem cum_one (l : Int) : cum l 1 = 0 := by unfold cum; simp
theorem cum_end (l : Int) : cum l 13 = 365 + l := by unfold cum; simp; omega
theorem cum_succ (l m : Int) (h1 : 1 ≤ m) (h2 : m ≤ 12) : cum l (m + 1) = cum l m + dim l m := by
 rcases months h1 h2 with h | h | h | h | h | h | h | h | h | h | h | h <;> subst h <;> simp [cum, dim] <;> omega
theorem dim_lo (l m : Int) (hl : l = 0 ∨ l = 1) (h1 : 1 ≤ m) (h2 : m ≤ 12) : 28 ≤ dim l m ∧ dim l m ≤ 31 := by
 rcases months h1 h2 with h | h | h | h | h | h | h | h | h | h | h | h <;> subst h <;> simp [dim] <;> omega
theorem dim_pos (l m : Int) (h : 0 < dim l m) : 1 ≤ m ∧ m ≤ 12 := by
 unfold dim at h
 split at h
 ·omega
 ·split at h
  ·omega
  ·split at h
   ·omega
   ·omega
theorem dim_none (l m : Int) (h : m < 1 ∨ 12 < m) : dim l m = 0 := by
 unfold dim
 rw [if_neg (by omega), if_neg (by omega), if_neg (by omega)]
theorem cum_mono (l m : Int) (hl : l = 0 ∨ l = 1) (h1 : 1 ≤ m) : ∀ n : Nat, m + n ≤ 13 → cum l m + 28 * n ≤ cum l (m + n)
 | 0, _ => by simp
 | n + 1, h => by
  have h3 := cum_mono l m hl h1 n (by omega)
  have h4 := cum_succ l (m + n) (by omega) (by omega)
  have h5 := dim_lo l (m + n) hl (by omega) (by omega)
  have e : m + ((n + 1 : Nat) : Int) = m + n + 1 := by omega
  rw [e]; omega
theorem cum_le {l a b : Int} (hl : l = 0 ∨ l = 1) (h1 : 1 ≤ a) (h : a ≤ b) (h2 : b ≤ 13) : cum l a + 28 * (b - a) ≤ cum l b := by
 have := cum_mono l a hl h1 (b - a).toNat (by omega)
 have e : a + ((b - a).toNat : Int) = b := by omega
 rw [e] at this; omega
theorem cum_bd {l m : Int} (hl : l = 0 ∨ l = 1) (h1 : 1 ≤ m) (h2 : m ≤ 13) : 0 ≤ cum l m ∧ cum l m ≤ 366 := by
 have a := cum_le hl (by omega) h1 h2
 have b := cum_le hl h1 h2 (by omega)
 rw [cum_one] at a; rw [cum_end] at b; omega

/-- A date of a calendar with months as the Gregorian one has; b: days ahead of its years, l: leap years. -/
structure Is (b l : Int → Int) (y m d day : Int) : Prop where
 m1 : 1 ≤ m
 m2 : m ≤ 12
 d1 : 1 ≤ d
 d2 : d ≤ dim (l y) m
 e : day = b y + cum (l y) m + d
structure Cal (b l : Int → Int) : Prop where
 l01 : ∀ y, l y = 0 ∨ l y = 1
 succ : ∀ y, b (y + 1) = b y + 365 + l y
theorem Cal.le {b l : Int → Int} (c : Cal b l) {x y : Int} (h : x ≤ y) : b x + 365 * (y - x) ≤ b y := by
 have key : ∀ n : Nat, b x + 365 * n ≤ b (x + n) := by
  intro n
  induction n with
  | zero => simp
  | succ n ih =>
   have h1 := c.succ (x + n)
   have h2 := c.l01 (x + n)
   have e : x + ((n + 1 : Nat) : Int) = x + n + 1 := by omega
   rw [e]; omega
 have := key (y - x).toNat
 have e : x + ((y - x).toNat : Int) = y := by omega
 rw [e] at this; omega
theorem Is.year {b l : Int → Int} (c : Cal b l) {y m d day : Int} (h : Is b l y m d day) : b y < day ∧ day ≤ b (y + 1) := by
 have h1 := cum_bd (c.l01 y) h.m1 (by have := h.m2; omega)
 have h2 := cum_succ (l y) m h.m1 h.m2
 have h3 := cum_le (c.l01 y) (show 1 ≤ m + 1 by have := h.m1; omega) (show m + 1 ≤ 13 by have := h.m2; omega) (by omega)
 rw [cum_end] at h3
 have h4 := c.succ y
 have := h.d1; have := h.d2; have := h.e; have := h.m2
 omega
theorem year_one {b l : Int → Int} (c : Cal b l) {x y day : Int} (hx : b x < day) (hx' : day ≤ b (x + 1)) (hy : b y < day) (hy' : day ≤ b (y + 1)) : x = y := by
 by_cases h : x < y
 ·have := c.le (show x + 1 ≤ y by omega); omega
 ·by_cases h' : y < x
  ·have := c.le (show y + 1 ≤ x by omega); omega
  ·omega
theorem Is.one {b l : Int → Int} (c : Cal b l) {y m d y' m' d' day : Int} (h : Is b l y m d day) (h' : Is b l y' m' d' day) : y = y' ∧ m = m' ∧ d = d' := by
 have ey : y = y' := year_one c (h.year c).1 (h.year c).2 (h'.year c).1 (h'.year c).2
 subst ey
 have em : m = m' := by
  have := h.e; have := h'.e; have := h.d1; have := h'.d1; have := h.d2; have := h'.d2; have := h.m1; have := h.m2; have := h'.m1; have := h'.m2
  have s := cum_succ (l y) m h.m1 h.m2
  have s' := cum_succ (l y) m' h'.m1 h'.m2
  by_cases a : m < m'
  ·have := cum_le (c.l01 y) (show 1 ≤ m + 1 by omega) (show m + 1 ≤ m' by omega) (by omega); omega
  ·by_cases a' : m' < m
   ·have := cum_le (c.l01 y) (show 1 ≤ m' + 1 by omega) (show m' + 1 ≤ m by omega) (by omega); omega
   ·omega
 subst em
 have := h.e; have := h'.e
 exact ⟨rfl, rfl, by omega⟩
theorem greg : Cal ah lp := ⟨lp_01, ah_succ⟩

/-- A day's Gregorian year, as the program reckons it. -/
def yrC (n : Int) : Int := min (n / 36524) 3
def yrR (n : Int) : Int := n - 36524 * yrC n
def yr (day : Int) : Int :=
 400 * ((day - 1) / 146097) + 100 * yrC ((day - 1) % 146097) + 4 * (yrR ((day - 1) % 146097) / 1461) + min (yrR ((day - 1) % 146097) % 1461 / 365) 3 + 1
theorem yr_ok (day : Int) : ah (yr day) < day ∧ day ≤ ah (yr day + 1) := by
 have hs := ah_succ (yr day)
 have key : ∀ q n c f s : Int, day - 1 = 146097 * q + n → 0 ≤ n → n < 146097 → c = min (n / 36524) 3 → f = (n - 36524 * c) / 1461 → s = min ((n - 36524 * c) % 1461 / 365) 3 →
   yr day = 400 * q + 100 * c + 4 * f + s + 1 → ah (yr day) < day ∧ day ≤ ah (yr day) + 365 + lp (yr day) := by
  intro q n c f s h1 h2 h3 hc hf hs hy
  have c0 : 0 ≤ c ∧ c ≤ 3 := by omega
  have f0 : 0 ≤ f ∧ f ≤ 24 := by omega
  have s0 : 0 ≤ s ∧ s ≤ 3 := by omega
  have e4 : (yr day - 1) / 4 = 100 * q + 25 * c + f := by omega
  have e100 : (yr day - 1) / 100 = 4 * q + c := by omega
  have e400 : (yr day - 1) / 400 = q := by omega
  have ea : ah (yr day) = 365 * (yr day - 1) + (100 * q + 25 * c + f) - (4 * q + c) + q := by unfold ah; rw [e4, e100, e400]
  have m4 : yr day % 4 = 0 ↔ s = 3 := by omega
  have m100 : yr day % 100 = 0 ↔ (s = 3 ∧ f = 24) := by omega
  have m400 : yr day % 400 = 0 ↔ (s = 3 ∧ f = 24 ∧ c = 3) := by omega
  have el : lp (yr day) = if s = 3 then (if f = 24 then (if c = 3 then 1 else 0) else 1) else 0 := by
   unfold lp
   by_cases a : s = 3
   ·by_cases b : f = 24
    ·by_cases c' : c = 3
     ·rw [if_pos (m4.2 a), if_pos (m100.2 ⟨a, b⟩), if_pos (m400.2 ⟨a, b, c'⟩), if_pos a, if_pos b, if_pos c']
     ·rw [if_pos (m4.2 a), if_pos (m100.2 ⟨a, b⟩), if_neg (fun h => c' (m400.1 h).2.2), if_pos a, if_pos b, if_neg c']
    ·rw [if_pos (m4.2 a), if_neg (fun h => b (m100.1 h).2), if_pos a, if_neg b]
   ·rw [if_neg (fun h => a (m4.1 h)), if_neg a]
  rw [ea, el]
  clear ea el m4 m100 m400 e4 e100 e400
  constructor
  ·omega
  ·by_cases a : s = 3
   ·by_cases b : f = 24
    ·by_cases c' : c = 3
     ·simp only [a, b, c', if_true]; omega
     ·simp only [a, b, c', if_true, if_false]; omega
    ·simp only [a, b, if_true, if_false]; omega
   ·simp only [a, if_false]; omega
 rw [hs]
 have := key ((day - 1) / 146097) ((day - 1) % 146097) _ _ _ (by omega) (by omega) (by omega) rfl rfl rfl rfl
 omega

/-- The day with which week 1 of a year begins. -/
def wk (y s : Int) : Int := ah y - 2 + (s - (ah y - 2)) % 7

theorem wk_bd (y s : Int) : ah y - 2 ≤ wk y s ∧ wk y s ≤ ah y + 4 ∧ (wk y s - s) % 7 = 0 := by
 unfold wk
 generalize hj : ah y - 2 = j
 omega
/-- Days ahead of a Julian year. -/
def jb (y : Int) : Int := 365 * (y - 1) + (y - 1) / 4 - 2
def lj (y : Int) : Int := if y % 4 = 0 then 1 else 0
theorem lj_01 (y : Int) : lj y = 0 ∨ lj y = 1 := by unfold lj; split <;> simp
theorem jul : Cal jb lj := ⟨lj_01, fun y => by unfold jb lj; split <;> omega⟩
/-- Days ahead of a Coptic year. -/
def cb (y : Int) : Int := 103604 + 365 * (y - 1) + y / 4
/-- Days of a Coptic year's last month. -/
def lc (y : Int) : Int := if y % 4 = 3 then 6 else 5
theorem cb_succ (y : Int) : cb (y + 1) = cb y + 360 + lc y := by unfold cb lc; split <;> omega
theorem lc_56 (y : Int) : lc y = 5 ∨ lc y = 6 := by unfold lc; split <;> simp
structure IsC (y m d day : Int) : Prop where
 m1 : 1 ≤ m
 m2 : m ≤ 13
 d1 : 1 ≤ d
 d2 : d ≤ 30
 d3 : m = 13 → d ≤ lc y
 e : day = cb y + 30 * (m - 1) + d
theorem cb_le {x y : Int} (h : x ≤ y) : cb x + 365 * (y - x) ≤ cb y := by unfold cb; omega
theorem IsC.year {y m d day : Int} (h : IsC y m d day) : cb y < day ∧ day ≤ cb (y + 1) := by
 have := h.m1; have := h.m2; have := h.d1; have := h.d2; have := h.d3; have := h.e; have := cb_succ y; have := lc_56 y
 omega
theorem IsC.one {y m d y' m' d' day : Int} (h : IsC y m d day) (h' : IsC y' m' d' day) : y = y' ∧ m = m' ∧ d = d' := by
 have a := h.year; have a' := h'.year
 have ey : y = y' := by
  by_cases b : y < y'
  ·have := cb_le (show y + 1 ≤ y' by omega); omega
  ·by_cases b' : y' < y
   ·have := cb_le (show y' + 1 ≤ y by omega); omega
   ·omega
 subst ey
 have := h.e; have := h'.e; have := h.d1; have := h'.d1; have := h.d2; have := h'.d2
 exact ⟨rfl, by omega, by omega⟩
end Go.Proofs.YtgbbgcepcnklkaaGreatDoor.Cal
/- What the program's day arithmetic (package rata) reckons, in plain numbers. -/
namespace Go.Proofs.YtgbbgcepcnklkaaGreatDoor.FunA
open Go.RowKit Go.Proofs.YtgbbgcepcnklkaaGreatDoorW.PrintWords Go.Proofs.YtgbbgcepcnklkaaGreatDoorW.PrintLast Go.Proofs.YtgbbgcepcnklkaaGreatDoor.Q Go.Proofs.YtgbbgcepcnklkaaGreatDoor.Cal
def I64 (a : Int) : Prop := -9223372036854775808 ≤ a ∧ a ≤ 9223372036854775807
theorem quo (a b : Int) (hb : 0 < b) : Int.tdiv a b = if 0 ≤ a ∨ a % b = 0 then a / b else a / b + 1 := by
 rw [Int.tdiv_eq_ediv]
 have hd : b ∣ a ↔ a % b = 0 := Int.dvd_iff_emod_eq_zero
 by_cases h : 0 ≤ a ∨ a % b = 0
 ·rw [if_pos h, if_pos (h.imp id hd.2)]; omega
 ·rw [if_neg h, if_neg (fun k => h (k.imp id hd.1)), Int.sign_eq_one_of_pos hb]
theorem rem0 (a b : Int) : Int.tmod a b = 0 ↔ a % b = 0 := by
 rw [← Int.dvd_iff_tmod_eq_zero, Int.dvd_iff_emod_eq_zero]
theorem div_bd (a b : Int) (hb : 2 ≤ b) (ha : I64 a) : -4611686018427387905 ≤ a / b ∧ a / b ≤ 4611686018427387904 := by
 have h1 := Int.ediv_mul_le a (show b ≠ 0 by omega)
 have h2 := Int.lt_ediv_add_one_mul_self a (show 0 < b by omega)
 obtain ⟨ha, ha'⟩ := ha
 generalize a / b = q at *
 constructor
 ·by_cases h : 0 ≤ q + 1
  ·omega
  ·have := Int.mul_le_mul_of_nonpos_left (show q + 1 ≤ 0 by omega) hb
   omega
 ·by_cases h : q ≤ 0
  ·omega
  ·have := Int.mul_le_mul_of_nonneg_left hb (show 0 ≤ q by omega)
   omega
theorem rFloor (a b : Int) (hb : 2 ≤ b) (ha : I64 a) : rata_Floor.f a b = some (a / b) := by
 have hd := div_bd a b hb ha
 have hq := quo a b (by omega)
 unfold rata_Floor.f
 rw [if_neg (by omega)]
 by_cases h0 : a % b = 0
 ·rw [if_pos ((rem0 a b).2 h0), hq, if_pos (Or.inr h0), w64 (by omega) (by omega)]
 ·rw [if_neg (fun h => h0 ((rem0 a b).1 h)), hq]
  by_cases hn : a < 0
  ·rw [if_pos (by simp [hn]; omega), if_neg (by omega), w64 (x := a / b + 1) (by omega) (by omega), w64 (by omega) (by omega)]
   congr 1; omega
  ·rw [if_neg (by simp [hn]; omega), if_pos (by omega), w64 (by omega) (by omega)]
theorem wrap_sub (a x : Int) : wrap64 (a - wrap64 x) = wrap64 (a - x) := by unfold wrap64; omega
theorem rMod (a b : Int) (hb : 2 ≤ b) (hb' : b ≤ 4611686018427387904) (ha : I64 a) : rata_Mod.f a b = some (a % b) := by
 unfold rata_Mod.f
 have h1 := Int.emod_nonneg a (show b ≠ 0 by omega)
 have h2 := Int.emod_lt_of_pos a (show 0 < b by omega)
 rw [rFloor a b hb ha, Option.bind_some, wrap_sub, ← Int.emod_def, w64 (by omega) (by omega)]
theorem rWeekday (a : Int) (ha : I64 a) : rata_Weekday.f a = some (a % 7) := by
 unfold rata_Weekday.f; rw [rMod a 7 (by omega) (by omega) ha]; rfl
theorem rAhead (y : Int) (h : -40000 ≤ y) (h' : y ≤ 40000) : rata_ahead.f y = some (ah y) := by
 unfold rata_ahead.f
 have e : wrap64 (y - 1) = y - 1 := w64 (by omega) (by omega)
 rw [e, rFloor _ 4 (by omega) ⟨by omega, by omega⟩, rFloor _ 100 (by omega) ⟨by omega, by omega⟩, rFloor _ 400 (by omega) ⟨by omega, by omega⟩]
 simp only [Option.bind_some]
 congr 1
 unfold ah wrap64; omega
theorem ah_bd (y : Int) (h : -40000 ≤ y) (h' : y ≤ 40000) : -15000000 ≤ ah y ∧ ah y ≤ 15000000 := by unfold ah; omega
theorem rBegins (y : Int) (h : -40000 ≤ y) (h' : y ≤ 40000) : rata_Begins.f y = some (ah y + 1) := by
 have := ah_bd y h h'
 unfold rata_Begins.f
 rw [rAhead y h h', Option.bind_some, w64 (by omega) (by omega)]
/-- A day of layer 1. -/
def In (day : Int) : Prop := 1 ≤ day ∧ day ≤ 3652059
theorem rOf (day : Int) : rata_Of.f day = some (decide (1 ≤ day) && decide (day ≤ 3652059)) := by
 unfold rata_Of.f
 by_cases h : day ≥ 1
 ·rw [if_pos h, decide_eq_true (show 1 ≤ day from h)]; rfl
 ·rw [if_neg h, decide_eq_false (show ¬ 1 ≤ day from h)]; rfl
theorem rOf_yes {day : Int} (h : In day) : rata_Of.f day = some true := by
 rw [rOf, decide_eq_true h.1, decide_eq_true h.2]; rfl
theorem rOf_no {day : Int} (h : ¬ In day) : rata_Of.f day = some false := by
 rw [rOf]
 by_cases a : 1 ≤ day
 ·rw [decide_eq_false (show ¬ day ≤ 3652059 from fun b => h ⟨a, b⟩)]; simp
 ·rw [decide_eq_false a]; rfl
end Go.Proofs.YtgbbgcepcnklkaaGreatDoor.FunA
