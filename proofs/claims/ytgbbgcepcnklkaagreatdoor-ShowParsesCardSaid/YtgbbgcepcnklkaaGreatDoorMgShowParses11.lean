/- Texts of this claim, merged: QrefA. -/
import Derived.Test.YtgbbgcepcnklkaaGreatDoorMgShowParses1
namespace Go.Proofs.YtgbbgcepcnklkaaGreatDoor.Q
open Go.RowKit Go.Proofs.YtgbbgcepcnklkaaGreatDoorW.PrintWords Go.Proofs.YtgbbgcepcnklkaaGreatDoorW.PrintLast Go.Proofs.YtgbbgcepcnklkaaGreatDoorW.PrintMore
attribute [local go_sem] max2_int min2_int max_two min_two
set_option linter.unusedVariables false
set_option linter.unusedSimpArgs false
/-! ### trystref01_In: function 7 -/
def trystref01_In.f (a0 : Int) : Option (Bool) := if a0 ≥ 1 then (some (decide (a0 ≤ 3652059))) else (some false)
set_option maxHeartbeats 8000000 in
set_option maxRecDepth 100000 in
theorem trystref01_In.calls (a0 : Int) (r : Bool) (w : World) (h : trystref01_In.f a0 = some r) :
  Calls Tryz.prog 7 #[.int .i64 a0] w fun e w' => e = .returned (.bool r) ∧ Drawn0 w w' := by
 have H : (if a0 ≥ 1 then (some (decide (a0 ≤ 3652059))) else (some false)) = some r := h
 clear h
 by_cases c2 : a0 ≥ 1
 ·rw [if_pos c2] at H
  have c2b0 : decide (1 ≤ a0) = true := decide_eq_true c2
  clear c2
  obtain rfl := Option.some.inj H
  go_enter Tryz.func7, Tryz.ntmps7
  go_wp2
  go_ret
  exact ⟨by first | rfl | simp | simp [*] | simp [bne_nil_], by repeat (first | exact Drawn0.refl _ | apply Drawn0.step)⟩
 ·rw [if_neg c2] at H
  have c2b0 : decide (1 ≤ a0) = false := decide_eq_false c2
  clear c2
  obtain rfl := Option.some.inj H
  go_enter Tryz.func7, Tryz.ntmps7
  go_wp2
  go_ret
  exact ⟨by first | rfl | simp | simp [*] | simp [bne_nil_], by repeat (first | exact Drawn0.refl _ | apply Drawn0.step)⟩

/-! ### trystref01_next: function 32 -/
def trystref01_next.f (a0 : Int) (a1 : Int) : Option (Int) := if a0 = 5 then (if a1 = (-1) then (some 1) else (some (wrap64 (a1 + 1)))) else (some (wrap64 (a1 + 1)))
set_option maxHeartbeats 8000000 in
set_option maxRecDepth 100000 in
theorem trystref01_next.calls (a0 : Int) (a1 : Int) (r : Int) (w : World) (h : trystref01_next.f a0 a1 = some r) :
  Calls Tryz.prog 32 #[.int .i64 a0, .int .i64 a1] w fun e w' => e = .returned (.int .i64 r) ∧ Drawn0 w w' := by
 have H : (if a0 = 5 then (if a1 = (-1) then (some 1) else (some (wrap64 (a1 + 1)))) else (some (wrap64 (a1 + 1)))) = some r := h
 clear h
 by_cases c3 : a0 = 5
 ·rw [if_pos c3] at H
  have c3b0 : (a0 == 5) = true := beq_iff_eq.mpr c3
  have c3b1 : (a0 != 5) = false := bne_eq_false_iff_eq.mpr c3
  clear c3
  by_cases c4 : a1 = (-1)
  ·rw [if_pos c4] at H
   have c4b0 : (a1 == (-1)) = true := beq_iff_eq.mpr c4
   have c4b1 : (a1 != (-1)) = false := bne_eq_false_iff_eq.mpr c4
   clear c4
   obtain rfl := Option.some.inj H
   go_enter Tryz.func32, Tryz.ntmps32
   go_wp2
   go_ret
   exact ⟨by first | rfl | simp | simp [*] | simp [bne_nil_], by repeat (first | exact Drawn0.refl _ | apply Drawn0.step)⟩
  ·rw [if_neg c4] at H
   have c4b0 : (a1 == (-1)) = false := beq_eq_false_iff_ne.mpr c4
   have c4b1 : (a1 != (-1)) = true := bne_iff_ne.mpr c4
   obtain rfl := Option.some.inj H
   go_enter Tryz.func32, Tryz.ntmps32
   go_wp2
   go_ret
   exact ⟨by first | rfl | simp | simp [*] | simp [bne_nil_], by repeat (first | exact Drawn0.refl _ | apply Drawn0.step)⟩
 ·rw [if_neg c3] at H
  have c3b0 : (a0 == 5) = false := beq_eq_false_iff_ne.mpr c3
  have c3b1 : (a0 != 5) = true := bne_iff_ne.mpr c3
  obtain rfl := Option.some.inj H
  go_enter Tryz.func32, Tryz.ntmps32
  go_wp2
  go_ret
  exact ⟨by first | rfl | simp | simp [*] | simp [bne_nil_], by repeat (first | exact Drawn0.refl _ | apply Drawn0.step)⟩

/-! ### trystref01_Floor: function 33 -/
def trystref01_Floor.f (a0 : Int) (a1 : Int) : Option (Int) := if a1 = 0 then (none) else (if (wrap64 ((wrap64 (Int.tdiv a0 a1)) * a1)) > a0 then (some (wrap64 ((wrap64 (Int.tdiv a0 a1)) - 1))) else (some (wrap64 (Int.tdiv a0 a1))))
set_option maxHeartbeats 8000000 in
set_option maxRecDepth 100000 in
theorem trystref01_Floor.calls (a0 : Int) (a1 : Int) (r : Int) (w : World) (h : trystref01_Floor.f a0 a1 = some r) :
  Calls Tryz.prog 33 #[.int .i64 a0, .int .i64 a1] w fun e w' => e = .returned (.int .i64 r) ∧ Drawn0 w w' := by
 have H : (if a1 = 0 then (none) else (if (wrap64 ((wrap64 (Int.tdiv a0 a1)) * a1)) > a0 then (some (wrap64 ((wrap64 (Int.tdiv a0 a1)) - 1))) else (some (wrap64 (Int.tdiv a0 a1))))) = some r := h
 clear h
 by_cases c3 : a1 = 0
 ·rw [if_pos c3] at H
  exact absurd H (by simp)
 ·rw [if_neg c3] at H
  have c3b0 : (a1 == 0) = false := beq_eq_false_iff_ne.mpr c3
  have c3b1 : (a1 != 0) = true := bne_iff_ne.mpr c3
  by_cases c4 : (wrap64 ((wrap64 (Int.tdiv a0 a1)) * a1)) > a0
  ·rw [if_pos c4] at H
   have c4b0 : decide (a0 < (wrap64 ((wrap64 (Int.tdiv a0 a1)) * a1))) = true := decide_eq_true c4
   clear c4
   obtain rfl := Option.some.inj H
   go_enter Tryz.func33, Tryz.ntmps33
   go_wp2
   go_ret
   exact ⟨by first | rfl | simp | simp [*] | simp [bne_nil_], by repeat (first | exact Drawn0.refl _ | apply Drawn0.step)⟩
  ·rw [if_neg c4] at H
   have c4b0 : decide (a0 < (wrap64 ((wrap64 (Int.tdiv a0 a1)) * a1))) = false := decide_eq_false c4
   clear c4
   obtain rfl := Option.some.inj H
   go_enter Tryz.func33, Tryz.ntmps33
   go_wp2
   go_ret
   exact ⟨by first | rfl | simp | simp [*] | simp [bne_nil_], by repeat (first | exact Drawn0.refl _ | apply Drawn0.step)⟩

/-! ### trystref01_Mod: function 110 -/
def trystref01_Mod.f (a0 : Int) (a1 : Int) : Option (Int) := (trystref01_Floor.f a0 a1).bind fun t294 => (some (wrap64 (a0 - (wrap64 (a1 * t294)))))
set_option maxHeartbeats 8000000 in
set_option maxRecDepth 100000 in
theorem trystref01_Mod.calls (a0 : Int) (a1 : Int) (r : Int) (w : World) (h : trystref01_Mod.f a0 a1 = some r) :
  Calls Tryz.prog 110 #[.int .i64 a0, .int .i64 a1] w fun e w' => e = .returned (.int .i64 r) ∧ Drawn0 w w' := by
 have H : ((trystref01_Floor.f a0 a1).bind fun t294 => (some (wrap64 (a0 - (wrap64 (a1 * t294)))))) = some r := h
 clear h
 replace H := Option.bind_eq_some_iff.mp H
 obtain ⟨t294, A30, H⟩ := H
 replace H : (some (wrap64 (a0 - (wrap64 (a1 * t294))))) = some r := H
 have A3 := Aside0.mk A30
 clear A30
 obtain rfl := Option.some.inj H
 go_enter Tryz.func110, Tryz.ntmps110
 go_wp2_with (first | ((with_reducible refine gate_callee (f := 33) rfl ?_); refine gm_ (some 9) Tryz.func33 #[.int .i64 a0, .int .i64 a1] ?_; (with_reducible refine (trystref01_Floor.calls a0 a1 t294 _ A3.out).mono ?_); rintro e w' ⟨rfl, ⟨nd, rfl⟩⟩; refine ⟨_, rfl, ?_⟩))
 go_ret
 exact ⟨by first | rfl | simp | simp [*] | simp [bne_nil_], by repeat (first | exact Drawn0.refl _ | apply Drawn0.step)⟩

/-! ### trystref01_elapsed: function 109 -/
def trystref01_elapsed.f (a0 : Int) : Option (Int) := (trystref01_Floor.f (wrap64 ((wrap64 (235 * a0)) - 234)) 19).bind fun t295 => ((trystref01_Floor.f (wrap64 (12084 + (wrap64 (13753 * t295)))) 25920).bind fun t296 => ((trystref01_Mod.f (wrap64 (3 * (wrap64 ((wrap64 ((wrap64 (29 * t295)) + t296)) + 1)))) 7).bind fun t297 => (if t297 < 3 then (some (wrap64 ((wrap64 ((wrap64 (29 * t295)) + t296)) + 1))) else (some (wrap64 ((wrap64 (29 * t295)) + t296))))))
set_option maxHeartbeats 8000000 in
set_option maxRecDepth 100000 in
theorem trystref01_elapsed.calls (a0 : Int) (r : Int) (w : World) (h : trystref01_elapsed.f a0 = some r) :
  Calls Tryz.prog 109 #[.int .i64 a0] w fun e w' => e = .returned (.int .i64 r) ∧ Drawn0 w w' := by
 have H : ((trystref01_Floor.f (wrap64 ((wrap64 (235 * a0)) - 234)) 19).bind fun t295 => ((trystref01_Floor.f (wrap64 (12084 + (wrap64 (13753 * t295)))) 25920).bind fun t296 => ((trystref01_Mod.f (wrap64 (3 * (wrap64 ((wrap64 ((wrap64 (29 * t295)) + t296)) + 1)))) 7).bind fun t297 => (if t297 < 3 then (some (wrap64 ((wrap64 ((wrap64 (29 * t295)) + t296)) + 1))) else (some (wrap64 ((wrap64 (29 * t295)) + t296))))))) = some r := h
 clear h
 replace H := Option.bind_eq_some_iff.mp H
 obtain ⟨t295, A20, H⟩ := H
 replace H : ((trystref01_Floor.f (wrap64 (12084 + (wrap64 (13753 * t295)))) 25920).bind fun t296 => ((trystref01_Mod.f (wrap64 (3 * (wrap64 ((wrap64 ((wrap64 (29 * t295)) + t296)) + 1)))) 7).bind fun t297 => (if t297 < 3 then (some (wrap64 ((wrap64 ((wrap64 (29 * t295)) + t296)) + 1))) else (some (wrap64 ((wrap64 (29 * t295)) + t296)))))) = some r := H
 have A2 := Aside0.mk A20
 clear A20
 replace H := Option.bind_eq_some_iff.mp H
 obtain ⟨t296, A30, H⟩ := H
 replace H : ((trystref01_Mod.f (wrap64 (3 * (wrap64 ((wrap64 ((wrap64 (29 * t295)) + t296)) + 1)))) 7).bind fun t297 => (if t297 < 3 then (some (wrap64 ((wrap64 ((wrap64 (29 * t295)) + t296)) + 1))) else (some (wrap64 ((wrap64 (29 * t295)) + t296))))) = some r := H
 have A3 := Aside0.mk A30
 clear A30
 replace H := Option.bind_eq_some_iff.mp H
 obtain ⟨t297, A40, H⟩ := H
 replace H : (if t297 < 3 then (some (wrap64 ((wrap64 ((wrap64 (29 * t295)) + t296)) + 1))) else (some (wrap64 ((wrap64 (29 * t295)) + t296)))) = some r := H
 have A4 := Aside0.mk A40
 clear A40
 by_cases c5 : t297 < 3
 ·rw [if_pos c5] at H
  have c5b0 : decide (t297 < 3) = true := decide_eq_true c5
  clear c5
  obtain rfl := Option.some.inj H
  go_enter Tryz.func109, Tryz.ntmps109
  go_wp2_with (first | ((with_reducible refine gate_callee (f := 33) rfl ?_); refine gm_ (some 8) Tryz.func33 #[.int .i64 (wrap64 ((wrap64 (235 * a0)) - 234)), .int .i64 19] ?_; (with_reducible refine (trystref01_Floor.calls (wrap64 ((wrap64 (235 * a0)) - 234)) 19 t295 _ A2.out).mono ?_); rintro e w' ⟨rfl, ⟨nd, rfl⟩⟩; refine ⟨_, rfl, ?_⟩) | ((with_reducible refine gate_callee (f := 33) rfl ?_); refine gm_ (some 14) Tryz.func33 #[.int .i64 (wrap64 (12084 + (wrap64 (13753 * t295)))), .int .i64 25920] ?_; (with_reducible refine (trystref01_Floor.calls (wrap64 (12084 + (wrap64 (13753 * t295)))) 25920 t296 _ A3.out).mono ?_); rintro e w' ⟨rfl, ⟨nd, rfl⟩⟩; refine ⟨_, rfl, ?_⟩) | ((with_reducible refine gate_callee (f := 110) rfl ?_); refine gm_ (some 19) Tryz.func110 #[.int .i64 (wrap64 (3 * (wrap64 ((wrap64 ((wrap64 (29 * t295)) + t296)) + 1)))), .int .i64 7] ?_; (with_reducible refine (trystref01_Mod.calls (wrap64 (3 * (wrap64 ((wrap64 ((wrap64 (29 * t295)) + t296)) + 1)))) 7 t297 _ A4.out).mono ?_); rintro e w' ⟨rfl, ⟨nd, rfl⟩⟩; refine ⟨_, rfl, ?_⟩))
  go_ret
  exact ⟨by first | rfl | simp | simp [*] | simp [bne_nil_], by repeat (first | exact Drawn0.refl _ | apply Drawn0.step)⟩
 ·rw [if_neg c5] at H
  have c5b0 : decide (t297 < 3) = false := decide_eq_false c5
  clear c5
  obtain rfl := Option.some.inj H
  go_enter Tryz.func109, Tryz.ntmps109
  go_wp2_with (first | ((with_reducible refine gate_callee (f := 33) rfl ?_); refine gm_ (some 8) Tryz.func33 #[.int .i64 (wrap64 ((wrap64 (235 * a0)) - 234)), .int .i64 19] ?_; (with_reducible refine (trystref01_Floor.calls (wrap64 ((wrap64 (235 * a0)) - 234)) 19 t295 _ A2.out).mono ?_); rintro e w' ⟨rfl, ⟨nd, rfl⟩⟩; refine ⟨_, rfl, ?_⟩) | ((with_reducible refine gate_callee (f := 33) rfl ?_); refine gm_ (some 14) Tryz.func33 #[.int .i64 (wrap64 (12084 + (wrap64 (13753 * t295)))), .int .i64 25920] ?_; (with_reducible refine (trystref01_Floor.calls (wrap64 (12084 + (wrap64 (13753 * t295)))) 25920 t296 _ A3.out).mono ?_); rintro e w' ⟨rfl, ⟨nd, rfl⟩⟩; refine ⟨_, rfl, ?_⟩) | ((with_reducible refine gate_callee (f := 110) rfl ?_); refine gm_ (some 19) Tryz.func110 #[.int .i64 (wrap64 (3 * (wrap64 ((wrap64 ((wrap64 (29 * t295)) + t296)) + 1)))), .int .i64 7] ?_; (with_reducible refine (trystref01_Mod.calls (wrap64 (3 * (wrap64 ((wrap64 ((wrap64 (29 * t295)) + t296)) + 1)))) 7 t297 _ A4.out).mono ?_); rintro e w' ⟨rfl, ⟨nd, rfl⟩⟩; refine ⟨_, rfl, ?_⟩))
  go_ret
  exact ⟨by first | rfl | simp | simp [*] | simp [bne_nil_], by repeat (first | exact Drawn0.refl _ | apply Drawn0.step)⟩

/-! ### trystref01_newYear: function 71 -/
def trystref01_newYear.f (a0 : Int) : Option (Int) := (trystref01_elapsed.f (wrap64 (a0 - 1))).bind fun t298 => ((trystref01_elapsed.f a0).bind fun t299 => ((trystref01_elapsed.f (wrap64 (a0 + 1))).bind fun t300 => (if (wrap64 (t300 - t299)) = 356 then (some (wrap64 ((wrap64 (t299 + 2)) - 1373427))) else (if (wrap64 (t299 - t298)) = 382 then (some (wrap64 ((wrap64 (t299 + 1)) - 1373427))) else (some (wrap64 (t299 - 1373427)))))))
set_option maxHeartbeats 8000000 in
set_option maxRecDepth 100000 in
theorem trystref01_newYear.calls (a0 : Int) (r : Int) (w : World) (h : trystref01_newYear.f a0 = some r) :
  Calls Tryz.prog 71 #[.int .i64 a0] w fun e w' => e = .returned (.int .i64 r) ∧ Drawn0 w w' := by
 have H : ((trystref01_elapsed.f (wrap64 (a0 - 1))).bind fun t298 => ((trystref01_elapsed.f a0).bind fun t299 => ((trystref01_elapsed.f (wrap64 (a0 + 1))).bind fun t300 => (if (wrap64 (t300 - t299)) = 356 then (some (wrap64 ((wrap64 (t299 + 2)) - 1373427))) else (if (wrap64 (t299 - t298)) = 382 then (some (wrap64 ((wrap64 (t299 + 1)) - 1373427))) else (some (wrap64 (t299 - 1373427)))))))) = some r := h
 clear h
 replace H := Option.bind_eq_some_iff.mp H
 obtain ⟨t298, A20, H⟩ := H
 replace H : ((trystref01_elapsed.f a0).bind fun t299 => ((trystref01_elapsed.f (wrap64 (a0 + 1))).bind fun t300 => (if (wrap64 (t300 - t299)) = 356 then (some (wrap64 ((wrap64 (t299 + 2)) - 1373427))) else (if (wrap64 (t299 - t298)) = 382 then (some (wrap64 ((wrap64 (t299 + 1)) - 1373427))) else (some (wrap64 (t299 - 1373427))))))) = some r := H
 have A2 := Aside0.mk A20
 clear A20
 replace H := Option.bind_eq_some_iff.mp H
 obtain ⟨t299, A30, H⟩ := H
 replace H : ((trystref01_elapsed.f (wrap64 (a0 + 1))).bind fun t300 => (if (wrap64 (t300 - t299)) = 356 then (some (wrap64 ((wrap64 (t299 + 2)) - 1373427))) else (if (wrap64 (t299 - t298)) = 382 then (some (wrap64 ((wrap64 (t299 + 1)) - 1373427))) else (some (wrap64 (t299 - 1373427)))))) = some r := H
 have A3 := Aside0.mk A30
 clear A30
 replace H := Option.bind_eq_some_iff.mp H
 obtain ⟨t300, A40, H⟩ := H
 replace H : (if (wrap64 (t300 - t299)) = 356 then (some (wrap64 ((wrap64 (t299 + 2)) - 1373427))) else (if (wrap64 (t299 - t298)) = 382 then (some (wrap64 ((wrap64 (t299 + 1)) - 1373427))) else (some (wrap64 (t299 - 1373427))))) = some r := H
 have A4 := Aside0.mk A40
 clear A40
 by_cases c5 : (wrap64 (t300 - t299)) = 356
 ·rw [if_pos c5] at H
  have c5b0 : ((wrap64 (t300 - t299)) == 356) = true := beq_iff_eq.mpr c5
  have c5b1 : ((wrap64 (t300 - t299)) != 356) = false := bne_eq_false_iff_eq.mpr c5
  clear c5
  obtain rfl := Option.some.inj H
  go_enter Tryz.func71, Tryz.ntmps71
  go_wp2_with (first | ((with_reducible refine gate_callee (f := 109) rfl ?_); refine gm_ (some 8) Tryz.func109 #[.int .i64 (wrap64 (a0 - 1))] ?_; (with_reducible refine (trystref01_elapsed.calls (wrap64 (a0 - 1)) t298 _ A2.out).mono ?_); rintro e w' ⟨rfl, ⟨nd, rfl⟩⟩; refine ⟨_, rfl, ?_⟩) | ((with_reducible refine gate_callee (f := 109) rfl ?_); refine gm_ (some 10) Tryz.func109 #[.int .i64 a0] ?_; (with_reducible refine (trystref01_elapsed.calls a0 t299 _ A3.out).mono ?_); rintro e w' ⟨rfl, ⟨nd, rfl⟩⟩; refine ⟨_, rfl, ?_⟩) | ((with_reducible refine gate_callee (f := 109) rfl ?_); refine gm_ (some 13) Tryz.func109 #[.int .i64 (wrap64 (a0 + 1))] ?_; (with_reducible refine (trystref01_elapsed.calls (wrap64 (a0 + 1)) t300 _ A4.out).mono ?_); rintro e w' ⟨rfl, ⟨nd, rfl⟩⟩; refine ⟨_, rfl, ?_⟩))
  go_ret
  exact ⟨by first | rfl | simp | simp [*] | simp [bne_nil_], by repeat (first | exact Drawn0.refl _ | apply Drawn0.step)⟩
 ·rw [if_neg c5] at H
  have c5b0 : ((wrap64 (t300 - t299)) == 356) = false := beq_eq_false_iff_ne.mpr c5
  have c5b1 : ((wrap64 (t300 - t299)) != 356) = true := bne_iff_ne.mpr c5
  by_cases c6 : (wrap64 (t299 - t298)) = 382
  ·rw [if_pos c6] at H
   have c6b0 : ((wrap64 (t299 - t298)) == 382) = true := beq_iff_eq.mpr c6
   have c6b1 : ((wrap64 (t299 - t298)) != 382) = false := bne_eq_false_iff_eq.mpr c6
   clear c6
   obtain rfl := Option.some.inj H
   go_enter Tryz.func71, Tryz.ntmps71
   go_wp2_with (first | ((with_reducible refine gate_callee (f := 109) rfl ?_); refine gm_ (some 8) Tryz.func109 #[.int .i64 (wrap64 (a0 - 1))] ?_; (with_reducible refine (trystref01_elapsed.calls (wrap64 (a0 - 1)) t298 _ A2.out).mono ?_); rintro e w' ⟨rfl, ⟨nd, rfl⟩⟩; refine ⟨_, rfl, ?_⟩) | ((with_reducible refine gate_callee (f := 109) rfl ?_); refine gm_ (some 10) Tryz.func109 #[.int .i64 a0] ?_; (with_reducible refine (trystref01_elapsed.calls a0 t299 _ A3.out).mono ?_); rintro e w' ⟨rfl, ⟨nd, rfl⟩⟩; refine ⟨_, rfl, ?_⟩) | ((with_reducible refine gate_callee (f := 109) rfl ?_); refine gm_ (some 13) Tryz.func109 #[.int .i64 (wrap64 (a0 + 1))] ?_; (with_reducible refine (trystref01_elapsed.calls (wrap64 (a0 + 1)) t300 _ A4.out).mono ?_); rintro e w' ⟨rfl, ⟨nd, rfl⟩⟩; refine ⟨_, rfl, ?_⟩))
   go_ret
   exact ⟨by first | rfl | simp | simp [*] | simp [bne_nil_], by repeat (first | exact Drawn0.refl _ | apply Drawn0.step)⟩
  ·rw [if_neg c6] at H
   have c6b0 : ((wrap64 (t299 - t298)) == 382) = false := beq_eq_false_iff_ne.mpr c6
   have c6b1 : ((wrap64 (t299 - t298)) != 382) = true := bne_iff_ne.mpr c6
   obtain rfl := Option.some.inj H
   go_enter Tryz.func71, Tryz.ntmps71
   go_wp2_with (first | ((with_reducible refine gate_callee (f := 109) rfl ?_); refine gm_ (some 8) Tryz.func109 #[.int .i64 (wrap64 (a0 - 1))] ?_; (with_reducible refine (trystref01_elapsed.calls (wrap64 (a0 - 1)) t298 _ A2.out).mono ?_); rintro e w' ⟨rfl, ⟨nd, rfl⟩⟩; refine ⟨_, rfl, ?_⟩) | ((with_reducible refine gate_callee (f := 109) rfl ?_); refine gm_ (some 10) Tryz.func109 #[.int .i64 a0] ?_; (with_reducible refine (trystref01_elapsed.calls a0 t299 _ A3.out).mono ?_); rintro e w' ⟨rfl, ⟨nd, rfl⟩⟩; refine ⟨_, rfl, ?_⟩) | ((with_reducible refine gate_callee (f := 109) rfl ?_); refine gm_ (some 13) Tryz.func109 #[.int .i64 (wrap64 (a0 + 1))] ?_; (with_reducible refine (trystref01_elapsed.calls (wrap64 (a0 + 1)) t300 _ A4.out).mono ?_); rintro e w' ⟨rfl, ⟨nd, rfl⟩⟩; refine ⟨_, rfl, ?_⟩))
   go_ret
   exact ⟨by first | rfl | simp | simp [*] | simp [bne_nil_], by repeat (first | exact Drawn0.refl _ | apply Drawn0.step)⟩

/-! ### trystref01_hebrewLeap: function 75 -/
def trystref01_hebrewLeap.f (a0 : Int) : Option (Bool) := (trystref01_Mod.f (wrap64 ((wrap64 (7 * a0)) + 1)) 19).bind fun t301 => (some (decide (t301 < 7)))
set_option maxHeartbeats 8000000 in
set_option maxRecDepth 100000 in
theorem trystref01_hebrewLeap.calls (a0 : Int) (r : Bool) (w : World) (h : trystref01_hebrewLeap.f a0 = some r) :
  Calls Tryz.prog 75 #[.int .i64 a0] w fun e w' => e = .returned (.bool r) ∧ Drawn0 w w' := by
 have H : ((trystref01_Mod.f (wrap64 ((wrap64 (7 * a0)) + 1)) 19).bind fun t301 => (some (decide (t301 < 7)))) = some r := h
 clear h
 replace H := Option.bind_eq_some_iff.mp H
 obtain ⟨t301, A20, H⟩ := H
 replace H : (some (decide (t301 < 7))) = some r := H
 have A2 := Aside0.mk A20
 clear A20
 obtain rfl := Option.some.inj H
 go_enter Tryz.func75, Tryz.ntmps75
 go_wp2_with (first | ((with_reducible refine gate_callee (f := 110) rfl ?_); refine gm_ (some 6) Tryz.func110 #[.int .i64 (wrap64 ((wrap64 (7 * a0)) + 1)), .int .i64 19] ?_; (with_reducible refine (trystref01_Mod.calls (wrap64 ((wrap64 (7 * a0)) + 1)) 19 t301 _ A2.out).mono ?_); rintro e w' ⟨rfl, ⟨nd, rfl⟩⟩; refine ⟨_, rfl, ?_⟩))
 go_ret
 exact ⟨by first | rfl | simp | simp [*] | simp [bne_nil_], by repeat (first | exact Drawn0.refl _ | apply Drawn0.step)⟩

/-! ### trystref01_hebrewMonth: function 73 -/
def trystref01_hebrewMonth.f (a0 : Int) (a1 : Int) : Option (Int) := (trystref01_newYear.f (wrap64 (a0 + 1))).bind fun t302 => ((trystref01_newYear.f a0).bind fun t303 => (if a1 = 2 then (some 29) else (if a1 = 4 then (some 29) else (if a1 = 6 then (some 29) else (if a1 = 10 then (some 29) else (if a1 = 13 then (some 29) else (if a1 = 12 then ((trystref01_hebrewLeap.f a0).bind fun t304 => (if t304 = true then (if a1 = 8 then (if (wrap64 (t302 - t303)) = 355 then (if a1 = 9 then (if (wrap64 (t302 - t303)) = 353 then (some 29) else (if (wrap64 (t302 - t303)) = 383 then (some 29) else (some 30))) else (some 30)) else (if (wrap64 (t302 - t303)) = 385 then (if a1 = 9 then (if (wrap64 (t302 - t303)) = 353 then (some 29) else (if (wrap64 (t302 - t303)) = 383 then (some 29) else (some 30))) else (some 30)) else (some 29))) else (if a1 = 9 then (if (wrap64 (t302 - t303)) = 353 then (some 29) else (if (wrap64 (t302 - t303)) = 383 then (some 29) else (some 30))) else (some 30))) else (some 29))) else (if a1 = 8 then (if (wrap64 (t302 - t303)) = 355 then (if a1 = 9 then (if (wrap64 (t302 - t303)) = 353 then (some 29) else (if (wrap64 (t302 - t303)) = 383 then (some 29) else (some 30))) else (some 30)) else (if (wrap64 (t302 - t303)) = 385 then (if a1 = 9 then (if (wrap64 (t302 - t303)) = 353 then (some 29) else (if (wrap64 (t302 - t303)) = 383 then (some 29) else (some 30))) else (some 30)) else (some 29))) else (if a1 = 9 then (if (wrap64 (t302 - t303)) = 353 then (some 29) else (if (wrap64 (t302 - t303)) = 383 then (some 29) else (some 30))) else (some 30))))))))))
set_option maxHeartbeats 8000000 in
set_option maxRecDepth 100000 in
theorem trystref01_hebrewMonth.calls (a0 : Int) (a1 : Int) (r : Int) (w : World) (h : trystref01_hebrewMonth.f a0 a1 = some r) :
  Calls Tryz.prog 73 #[.int .i64 a0, .int .i64 a1] w fun e w' => e = .returned (.int .i64 r) ∧ Drawn0 w w' := by
 have H : ((trystref01_newYear.f (wrap64 (a0 + 1))).bind fun t302 => ((trystref01_newYear.f a0).bind fun t303 => (if a1 = 2 then (some 29) else (if a1 = 4 then (some 29) else (if a1 = 6 then (some 29) else (if a1 = 10 then (some 29) else (if a1 = 13 then (some 29) else (if a1 = 12 then ((trystref01_hebrewLeap.f a0).bind fun t304 => (if t304 = true then (if a1 = 8 then (if (wrap64 (t302 - t303)) = 355 then (if a1 = 9 then (if (wrap64 (t302 - t303)) = 353 then (some 29) else (if (wrap64 (t302 - t303)) = 383 then (some 29) else (some 30))) else (some 30)) else (if (wrap64 (t302 - t303)) = 385 then (if a1 = 9 then (if (wrap64 (t302 - t303)) = 353 then (some 29) else (if (wrap64 (t302 - t303)) = 383 then (some 29) else (some 30))) else (some 30)) else (some 29))) else (if a1 = 9 then (if (wrap64 (t302 - t303)) = 353 then (some 29) else (if (wrap64 (t302 - t303)) = 383 then (some 29) else (some 30))) else (some 30))) else (some 29))) else (if a1 = 8 then (if (wrap64 (t302 - t303)) = 355 then (if a1 = 9 then (if (wrap64 (t302 - t303)) = 353 then (some 29) else (if (wrap64 (t302 - t303)) = 383 then (some 29) else (some 30))) else (some 30)) else (if (wrap64 (t302 - t303)) = 385 then (if a1 = 9 then (if (wrap64 (t302 - t303)) = 353 then (some 29) else (if (wrap64 (t302 - t303)) = 383 then (some 29) else (some 30))) else (some 30)) else (some 29))) else (if a1 = 9 then (if (wrap64 (t302 - t303)) = 353 then (some 29) else (if (wrap64 (t302 - t303)) = 383 then (some 29) else (some 30))) else (some 30))))))))))) = some r := h
 clear h
 replace H := Option.bind_eq_some_iff.mp H
 obtain ⟨t302, A30, H⟩ := H
 replace H : ((trystref01_newYear.f a0).bind fun t303 => (if a1 = 2 then (some 29) else (if a1 = 4 then (some 29) else (if a1 = 6 then (some 29) else (if a1 = 10 then (some 29) else (if a1 = 13 then (some 29) else (if a1 = 12 then ((trystref01_hebrewLeap.f a0).bind fun t304 => (if t304 = true then (if a1 = 8 then (if (wrap64 (t302 - t303)) = 355 then (if a1 = 9 then (if (wrap64 (t302 - t303)) = 353 then (some 29) else (if (wrap64 (t302 - t303)) = 383 then (some 29) else (some 30))) else (some 30)) else (if (wrap64 (t302 - t303)) = 385 then (if a1 = 9 then (if (wrap64 (t302 - t303)) = 353 then (some 29) else (if (wrap64 (t302 - t303)) = 383 then (some 29) else (some 30))) else (some 30)) else (some 29))) else (if a1 = 9 then (if (wrap64 (t302 - t303)) = 353 then (some 29) else (if (wrap64 (t302 - t303)) = 383 then (some 29) else (some 30))) else (some 30))) else (some 29))) else (if a1 = 8 then (if (wrap64 (t302 - t303)) = 355 then (if a1 = 9 then (if (wrap64 (t302 - t303)) = 353 then (some 29) else (if (wrap64 (t302 - t303)) = 383 then (some 29) else (some 30))) else (some 30)) else (if (wrap64 (t302 - t303)) = 385 then (if a1 = 9 then (if (wrap64 (t302 - t303)) = 353 then (some 29) else (if (wrap64 (t302 - t303)) = 383 then (some 29) else (some 30))) else (some 30)) else (some 29))) else (if a1 = 9 then (if (wrap64 (t302 - t303)) = 353 then (some 29) else (if (wrap64 (t302 - t303)) = 383 then (some 29) else (some 30))) else (some 30)))))))))) = some r := H
 have A3 := Aside0.mk A30
 clear A30
 replace H := Option.bind_eq_some_iff.mp H
 obtain ⟨t303, A40, H⟩ := H
 replace H : (if a1 = 2 then (some 29) else (if a1 = 4 then (some 29) else (if a1 = 6 then (some 29) else (if a1 = 10 then (some 29) else (if a1 = 13 then (some 29) else (if a1 = 12 then ((trystref01_hebrewLeap.f a0).bind fun t304 => (if t304 = true then (if a1 = 8 then (if (wrap64 (t302 - t303)) = 355 then (if a1 = 9 then (if (wrap64 (t302 - t303)) = 353 then (some 29) else (if (wrap64 (t302 - t303)) = 383 then (some 29) else (some 30))) else (some 30)) else (if (wrap64 (t302 - t303)) = 385 then (if a1 = 9 then (if (wrap64 (t302 - t303)) = 353 then (some 29) else (if (wrap64 (t302 - t303)) = 383 then (some 29) else (some 30))) else (some 30)) else (some 29))) else (if a1 = 9 then (if (wrap64 (t302 - t303)) = 353 then (some 29) else (if (wrap64 (t302 - t303)) = 383 then (some 29) else (some 30))) else (some 30))) else (some 29))) else (if a1 = 8 then (if (wrap64 (t302 - t303)) = 355 then (if a1 = 9 then (if (wrap64 (t302 - t303)) = 353 then (some 29) else (if (wrap64 (t302 - t303)) = 383 then (some 29) else (some 30))) else (some 30)) else (if (wrap64 (t302 - t303)) = 385 then (if a1 = 9 then (if (wrap64 (t302 - t303)) = 353 then (some 29) else (if (wrap64 (t302 - t303)) = 383 then (some 29) else (some 30))) else (some 30)) else (some 29))) else (if a1 = 9 then (if (wrap64 (t302 - t303)) = 353 then (some 29) else (if (wrap64 (t302 - t303)) = 383 then (some 29) else (some 30))) else (some 30))))))))) = some r := H
 have A4 := Aside0.mk A40
 clear A40
 refine dite (a1 = 2) (fun c5 => ?pc5) (fun c5 => ?nc5)
 case' pc5 =>
  rw [if_pos c5] at H
  have c5b0 : (a1 == 2) = true := beq_iff_eq.mpr c5
  have c5b1 : (a1 != 2) = false := bne_eq_false_iff_eq.mpr c5
  clear c5
  obtain rfl := Option.some.inj H
 case' nc5 =>
  rw [if_neg c5] at H
  have c5b0 : (a1 == 2) = false := beq_eq_false_iff_ne.mpr c5
  have c5b1 : (a1 != 2) = true := bne_iff_ne.mpr c5
  refine dite (a1 = 4) (fun c6 => ?pc6) (fun c6 => ?nc6)
  case' pc6 =>
   rw [if_pos c6] at H
   have c6b0 : (a1 == 4) = true := beq_iff_eq.mpr c6
   have c6b1 : (a1 != 4) = false := bne_eq_false_iff_eq.mpr c6
   clear c6
   obtain rfl := Option.some.inj H
  case' nc6 =>
   rw [if_neg c6] at H
   have c6b0 : (a1 == 4) = false := beq_eq_false_iff_ne.mpr c6
   have c6b1 : (a1 != 4) = true := bne_iff_ne.mpr c6
   refine dite (a1 = 6) (fun c7 => ?pc7) (fun c7 => ?nc7)
   case' pc7 =>
    rw [if_pos c7] at H
    have c7b0 : (a1 == 6) = true := beq_iff_eq.mpr c7
    have c7b1 : (a1 != 6) = false := bne_eq_false_iff_eq.mpr c7
    clear c7
    obtain rfl := Option.some.inj H
   case' nc7 =>
    rw [if_neg c7] at H
    have c7b0 : (a1 == 6) = false := beq_eq_false_iff_ne.mpr c7
    have c7b1 : (a1 != 6) = true := bne_iff_ne.mpr c7
    refine dite (a1 = 10) (fun c8 => ?pc8) (fun c8 => ?nc8)
    case' pc8 =>
     rw [if_pos c8] at H
     have c8b0 : (a1 == 10) = true := beq_iff_eq.mpr c8
     have c8b1 : (a1 != 10) = false := bne_eq_false_iff_eq.mpr c8
     clear c8
     obtain rfl := Option.some.inj H
    case' nc8 =>
     rw [if_neg c8] at H
     have c8b0 : (a1 == 10) = false := beq_eq_false_iff_ne.mpr c8
     have c8b1 : (a1 != 10) = true := bne_iff_ne.mpr c8
     refine dite (a1 = 13) (fun c9 => ?pc9) (fun c9 => ?nc9)
     case' pc9 =>
      rw [if_pos c9] at H
      have c9b0 : (a1 == 13) = true := beq_iff_eq.mpr c9
      have c9b1 : (a1 != 13) = false := bne_eq_false_iff_eq.mpr c9
      clear c9
      obtain rfl := Option.some.inj H
     case' nc9 =>
      rw [if_neg c9] at H
      have c9b0 : (a1 == 13) = false := beq_eq_false_iff_ne.mpr c9
      have c9b1 : (a1 != 13) = true := bne_iff_ne.mpr c9
      refine dite (a1 = 12) (fun c10 => ?pc10) (fun c10 => ?nc10)
      case' pc10 =>
       rw [if_pos c10] at H
       have c10b0 : (a1 == 12) = true := beq_iff_eq.mpr c10
       have c10b1 : (a1 != 12) = false := bne_eq_false_iff_eq.mpr c10
       clear c10
       replace H := Option.bind_eq_some_iff.mp H
       obtain ⟨t304, A110, H⟩ := H
       replace H : (if t304 = true then (if a1 = 8 then (if (wrap64 (t302 - t303)) = 355 then (if a1 = 9 then (if (wrap64 (t302 - t303)) = 353 then (some 29) else (if (wrap64 (t302 - t303)) = 383 then (some 29) else (some 30))) else (some 30)) else (if (wrap64 (t302 - t303)) = 385 then (if a1 = 9 then (if (wrap64 (t302 - t303)) = 353 then (some 29) else (if (wrap64 (t302 - t303)) = 383 then (some 29) else (some 30))) else (some 30)) else (some 29))) else (if a1 = 9 then (if (wrap64 (t302 - t303)) = 353 then (some 29) else (if (wrap64 (t302 - t303)) = 383 then (some 29) else (some 30))) else (some 30))) else (some 29)) = some r := H
       have A11 := Aside0.mk A110
       clear A110
       refine dite (t304 = true) (fun c12 => ?pc12) (fun c12 => ?nc12)
       case' pc12 =>
        subst c12
        have H1 : (if a1 = 8 then (if (wrap64 (t302 - t303)) = 355 then (if a1 = 9 then (if (wrap64 (t302 - t303)) = 353 then (some 29) else (if (wrap64 (t302 - t303)) = 383 then (some 29) else (some 30))) else (some 30)) else (if (wrap64 (t302 - t303)) = 385 then (if a1 = 9 then (if (wrap64 (t302 - t303)) = 353 then (some 29) else (if (wrap64 (t302 - t303)) = 383 then (some 29) else (some 30))) else (some 30)) else (some 29))) else (if a1 = 9 then (if (wrap64 (t302 - t303)) = 353 then (some 29) else (if (wrap64 (t302 - t303)) = 383 then (some 29) else (some 30))) else (some 30))) = some r := by rw [if_pos rfl] at H; exact H
        clear H
        have H := H1
        clear H1
        refine dite (a1 = 8) (fun c13 => ?pc13) (fun c13 => ?nc13)
        case' pc13 =>
         rw [if_pos c13] at H
         have c13b0 : (a1 == 8) = true := beq_iff_eq.mpr c13
         have c13b1 : (a1 != 8) = false := bne_eq_false_iff_eq.mpr c13
         clear c13
         refine dite ((wrap64 (t302 - t303)) = 355) (fun c14 => ?pc14) (fun c14 => ?nc14)
         case' pc14 =>
          rw [if_pos c14] at H
          have c14b0 : ((wrap64 (t302 - t303)) == 355) = true := beq_iff_eq.mpr c14
          have c14b1 : ((wrap64 (t302 - t303)) != 355) = false := bne_eq_false_iff_eq.mpr c14
          clear c14
          refine dite (a1 = 9) (fun c15 => ?pc15) (fun c15 => ?nc15)
          case' pc15 =>
           rw [if_pos c15] at H
           have c15b0 : (a1 == 9) = true := beq_iff_eq.mpr c15
           have c15b1 : (a1 != 9) = false := bne_eq_false_iff_eq.mpr c15
           clear c15
           refine dite ((wrap64 (t302 - t303)) = 353) (fun c16 => ?pc16) (fun c16 => ?nc16)
           case' pc16 =>
            rw [if_pos c16] at H
            have c16b0 : ((wrap64 (t302 - t303)) == 353) = true := beq_iff_eq.mpr c16
            have c16b1 : ((wrap64 (t302 - t303)) != 353) = false := bne_eq_false_iff_eq.mpr c16
            clear c16
            obtain rfl := Option.some.inj H
           case' nc16 =>
            rw [if_neg c16] at H
            have c16b0 : ((wrap64 (t302 - t303)) == 353) = false := beq_eq_false_iff_ne.mpr c16
            have c16b1 : ((wrap64 (t302 - t303)) != 353) = true := bne_iff_ne.mpr c16
            refine dite ((wrap64 (t302 - t303)) = 383) (fun c17 => ?pc17) (fun c17 => ?nc17)
            case' pc17 =>
             rw [if_pos c17] at H
             have c17b0 : ((wrap64 (t302 - t303)) == 383) = true := beq_iff_eq.mpr c17
             have c17b1 : ((wrap64 (t302 - t303)) != 383) = false := bne_eq_false_iff_eq.mpr c17
             clear c17
             obtain rfl := Option.some.inj H
            case' nc17 =>
             rw [if_neg c17] at H
             have c17b0 : ((wrap64 (t302 - t303)) == 383) = false := beq_eq_false_iff_ne.mpr c17
             have c17b1 : ((wrap64 (t302 - t303)) != 383) = true := bne_iff_ne.mpr c17
             obtain rfl := Option.some.inj H
          case' nc15 =>
           rw [if_neg c15] at H
           have c15b0 : (a1 == 9) = false := beq_eq_false_iff_ne.mpr c15
           have c15b1 : (a1 != 9) = true := bne_iff_ne.mpr c15
           obtain rfl := Option.some.inj H
         case' nc14 =>
          rw [if_neg c14] at H
          have c14b0 : ((wrap64 (t302 - t303)) == 355) = false := beq_eq_false_iff_ne.mpr c14
          have c14b1 : ((wrap64 (t302 - t303)) != 355) = true := bne_iff_ne.mpr c14
          refine dite ((wrap64 (t302 - t303)) = 385) (fun c18 => ?pc18) (fun c18 => ?nc18)
          case' pc18 =>
           rw [if_pos c18] at H
           have c18b0 : ((wrap64 (t302 - t303)) == 385) = true := beq_iff_eq.mpr c18
           have c18b1 : ((wrap64 (t302 - t303)) != 385) = false := bne_eq_false_iff_eq.mpr c18
           clear c18
           refine dite (a1 = 9) (fun c19 => ?pc19) (fun c19 => ?nc19)
           case' pc19 =>
            rw [if_pos c19] at H
            have c19b0 : (a1 == 9) = true := beq_iff_eq.mpr c19
            have c19b1 : (a1 != 9) = false := bne_eq_false_iff_eq.mpr c19
            clear c19
            refine dite ((wrap64 (t302 - t303)) = 353) (fun c20 => ?pc20) (fun c20 => ?nc20)
            case' pc20 =>
             rw [if_pos c20] at H
             have c20b0 : ((wrap64 (t302 - t303)) == 353) = true := beq_iff_eq.mpr c20
             have c20b1 : ((wrap64 (t302 - t303)) != 353) = false := bne_eq_false_iff_eq.mpr c20
             clear c20
             obtain rfl := Option.some.inj H
            case' nc20 =>
             rw [if_neg c20] at H
             have c20b0 : ((wrap64 (t302 - t303)) == 353) = false := beq_eq_false_iff_ne.mpr c20
             have c20b1 : ((wrap64 (t302 - t303)) != 353) = true := bne_iff_ne.mpr c20
             refine dite ((wrap64 (t302 - t303)) = 383) (fun c21 => ?pc21) (fun c21 => ?nc21)
             case' pc21 =>
              rw [if_pos c21] at H
              have c21b0 : ((wrap64 (t302 - t303)) == 383) = true := beq_iff_eq.mpr c21
              have c21b1 : ((wrap64 (t302 - t303)) != 383) = false := bne_eq_false_iff_eq.mpr c21
              clear c21
              obtain rfl := Option.some.inj H
             case' nc21 =>
              rw [if_neg c21] at H
              have c21b0 : ((wrap64 (t302 - t303)) == 383) = false := beq_eq_false_iff_ne.mpr c21
              have c21b1 : ((wrap64 (t302 - t303)) != 383) = true := bne_iff_ne.mpr c21
              obtain rfl := Option.some.inj H
           case' nc19 =>
            rw [if_neg c19] at H
            have c19b0 : (a1 == 9) = false := beq_eq_false_iff_ne.mpr c19
            have c19b1 : (a1 != 9) = true := bne_iff_ne.mpr c19
            obtain rfl := Option.some.inj H
          case' nc18 =>
           rw [if_neg c18] at H
           have c18b0 : ((wrap64 (t302 - t303)) == 385) = false := beq_eq_false_iff_ne.mpr c18
           have c18b1 : ((wrap64 (t302 - t303)) != 385) = true := bne_iff_ne.mpr c18
           obtain rfl := Option.some.inj H
        case' nc13 =>
         rw [if_neg c13] at H
         have c13b0 : (a1 == 8) = false := beq_eq_false_iff_ne.mpr c13
         have c13b1 : (a1 != 8) = true := bne_iff_ne.mpr c13
         refine dite (a1 = 9) (fun c22 => ?pc22) (fun c22 => ?nc22)
         case' pc22 =>
          rw [if_pos c22] at H
          have c22b0 : (a1 == 9) = true := beq_iff_eq.mpr c22
          have c22b1 : (a1 != 9) = false := bne_eq_false_iff_eq.mpr c22
          clear c22
          refine dite ((wrap64 (t302 - t303)) = 353) (fun c23 => ?pc23) (fun c23 => ?nc23)
          case' pc23 =>
           rw [if_pos c23] at H
           have c23b0 : ((wrap64 (t302 - t303)) == 353) = true := beq_iff_eq.mpr c23
           have c23b1 : ((wrap64 (t302 - t303)) != 353) = false := bne_eq_false_iff_eq.mpr c23
           clear c23
           obtain rfl := Option.some.inj H
          case' nc23 =>
           rw [if_neg c23] at H
           have c23b0 : ((wrap64 (t302 - t303)) == 353) = false := beq_eq_false_iff_ne.mpr c23
           have c23b1 : ((wrap64 (t302 - t303)) != 353) = true := bne_iff_ne.mpr c23
           refine dite ((wrap64 (t302 - t303)) = 383) (fun c24 => ?pc24) (fun c24 => ?nc24)
           case' pc24 =>
            rw [if_pos c24] at H
            have c24b0 : ((wrap64 (t302 - t303)) == 383) = true := beq_iff_eq.mpr c24
            have c24b1 : ((wrap64 (t302 - t303)) != 383) = false := bne_eq_false_iff_eq.mpr c24
            clear c24
            obtain rfl := Option.some.inj H
           case' nc24 =>
            rw [if_neg c24] at H
            have c24b0 : ((wrap64 (t302 - t303)) == 383) = false := beq_eq_false_iff_ne.mpr c24
            have c24b1 : ((wrap64 (t302 - t303)) != 383) = true := bne_iff_ne.mpr c24
            obtain rfl := Option.some.inj H
         case' nc22 =>
          rw [if_neg c22] at H
          have c22b0 : (a1 == 9) = false := beq_eq_false_iff_ne.mpr c22
          have c22b1 : (a1 != 9) = true := bne_iff_ne.mpr c22
          obtain rfl := Option.some.inj H
       case' nc12 =>
        replace c12 := Bool.eq_false_iff.mpr c12
        subst c12
        have H1 : (some 29) = some r := by rw [if_neg (show ¬ (false = true) by decide)] at H; exact H
        clear H
        have H := H1
        clear H1
        obtain rfl := Option.some.inj H
      case' nc10 =>
       rw [if_neg c10] at H
       have c10b0 : (a1 == 12) = false := beq_eq_false_iff_ne.mpr c10
       have c10b1 : (a1 != 12) = true := bne_iff_ne.mpr c10
       refine dite (a1 = 8) (fun c25 => ?pc25) (fun c25 => ?nc25)
       case' pc25 =>
        rw [if_pos c25] at H
        have c25b0 : (a1 == 8) = true := beq_iff_eq.mpr c25
        have c25b1 : (a1 != 8) = false := bne_eq_false_iff_eq.mpr c25
        clear c25
        refine dite ((wrap64 (t302 - t303)) = 355) (fun c26 => ?pc26) (fun c26 => ?nc26)
        case' pc26 =>
         rw [if_pos c26] at H
         have c26b0 : ((wrap64 (t302 - t303)) == 355) = true := beq_iff_eq.mpr c26
         have c26b1 : ((wrap64 (t302 - t303)) != 355) = false := bne_eq_false_iff_eq.mpr c26
         clear c26
         refine dite (a1 = 9) (fun c27 => ?pc27) (fun c27 => ?nc27)
         case' pc27 =>
          rw [if_pos c27] at H
          have c27b0 : (a1 == 9) = true := beq_iff_eq.mpr c27
          have c27b1 : (a1 != 9) = false := bne_eq_false_iff_eq.mpr c27
          clear c27
          refine dite ((wrap64 (t302 - t303)) = 353) (fun c28 => ?pc28) (fun c28 => ?nc28)
          case' pc28 =>
           rw [if_pos c28] at H
           have c28b0 : ((wrap64 (t302 - t303)) == 353) = true := beq_iff_eq.mpr c28
           have c28b1 : ((wrap64 (t302 - t303)) != 353) = false := bne_eq_false_iff_eq.mpr c28
           clear c28
           obtain rfl := Option.some.inj H
          case' nc28 =>
           rw [if_neg c28] at H
           have c28b0 : ((wrap64 (t302 - t303)) == 353) = false := beq_eq_false_iff_ne.mpr c28
           have c28b1 : ((wrap64 (t302 - t303)) != 353) = true := bne_iff_ne.mpr c28
           refine dite ((wrap64 (t302 - t303)) = 383) (fun c29 => ?pc29) (fun c29 => ?nc29)
           case' pc29 =>
            rw [if_pos c29] at H
            have c29b0 : ((wrap64 (t302 - t303)) == 383) = true := beq_iff_eq.mpr c29
            have c29b1 : ((wrap64 (t302 - t303)) != 383) = false := bne_eq_false_iff_eq.mpr c29
            clear c29
            obtain rfl := Option.some.inj H
           case' nc29 =>
            rw [if_neg c29] at H
            have c29b0 : ((wrap64 (t302 - t303)) == 383) = false := beq_eq_false_iff_ne.mpr c29
            have c29b1 : ((wrap64 (t302 - t303)) != 383) = true := bne_iff_ne.mpr c29
            obtain rfl := Option.some.inj H
         case' nc27 =>
          rw [if_neg c27] at H
          have c27b0 : (a1 == 9) = false := beq_eq_false_iff_ne.mpr c27
          have c27b1 : (a1 != 9) = true := bne_iff_ne.mpr c27
          obtain rfl := Option.some.inj H
        case' nc26 =>
         rw [if_neg c26] at H
         have c26b0 : ((wrap64 (t302 - t303)) == 355) = false := beq_eq_false_iff_ne.mpr c26
         have c26b1 : ((wrap64 (t302 - t303)) != 355) = true := bne_iff_ne.mpr c26
         refine dite ((wrap64 (t302 - t303)) = 385) (fun c30 => ?pc30) (fun c30 => ?nc30)
         case' pc30 =>
          rw [if_pos c30] at H
          have c30b0 : ((wrap64 (t302 - t303)) == 385) = true := beq_iff_eq.mpr c30
          have c30b1 : ((wrap64 (t302 - t303)) != 385) = false := bne_eq_false_iff_eq.mpr c30
          clear c30
          refine dite (a1 = 9) (fun c31 => ?pc31) (fun c31 => ?nc31)
          case' pc31 =>
           rw [if_pos c31] at H
           have c31b0 : (a1 == 9) = true := beq_iff_eq.mpr c31
           have c31b1 : (a1 != 9) = false := bne_eq_false_iff_eq.mpr c31
           clear c31
           refine dite ((wrap64 (t302 - t303)) = 353) (fun c32 => ?pc32) (fun c32 => ?nc32)
           case' pc32 =>
            rw [if_pos c32] at H
            have c32b0 : ((wrap64 (t302 - t303)) == 353) = true := beq_iff_eq.mpr c32
            have c32b1 : ((wrap64 (t302 - t303)) != 353) = false := bne_eq_false_iff_eq.mpr c32
            clear c32
            obtain rfl := Option.some.inj H
           case' nc32 =>
            rw [if_neg c32] at H
            have c32b0 : ((wrap64 (t302 - t303)) == 353) = false := beq_eq_false_iff_ne.mpr c32
            have c32b1 : ((wrap64 (t302 - t303)) != 353) = true := bne_iff_ne.mpr c32
            refine dite ((wrap64 (t302 - t303)) = 383) (fun c33 => ?pc33) (fun c33 => ?nc33)
            case' pc33 =>
             rw [if_pos c33] at H
             have c33b0 : ((wrap64 (t302 - t303)) == 383) = true := beq_iff_eq.mpr c33
             have c33b1 : ((wrap64 (t302 - t303)) != 383) = false := bne_eq_false_iff_eq.mpr c33
             clear c33
             obtain rfl := Option.some.inj H
            case' nc33 =>
             rw [if_neg c33] at H
             have c33b0 : ((wrap64 (t302 - t303)) == 383) = false := beq_eq_false_iff_ne.mpr c33
             have c33b1 : ((wrap64 (t302 - t303)) != 383) = true := bne_iff_ne.mpr c33
             obtain rfl := Option.some.inj H
          case' nc31 =>
           rw [if_neg c31] at H
           have c31b0 : (a1 == 9) = false := beq_eq_false_iff_ne.mpr c31
           have c31b1 : (a1 != 9) = true := bne_iff_ne.mpr c31
           obtain rfl := Option.some.inj H
         case' nc30 =>
          rw [if_neg c30] at H
          have c30b0 : ((wrap64 (t302 - t303)) == 385) = false := beq_eq_false_iff_ne.mpr c30
          have c30b1 : ((wrap64 (t302 - t303)) != 385) = true := bne_iff_ne.mpr c30
          obtain rfl := Option.some.inj H
       case' nc25 =>
        rw [if_neg c25] at H
        have c25b0 : (a1 == 8) = false := beq_eq_false_iff_ne.mpr c25
        have c25b1 : (a1 != 8) = true := bne_iff_ne.mpr c25
        refine dite (a1 = 9) (fun c34 => ?pc34) (fun c34 => ?nc34)
        case' pc34 =>
         rw [if_pos c34] at H
         have c34b0 : (a1 == 9) = true := beq_iff_eq.mpr c34
         have c34b1 : (a1 != 9) = false := bne_eq_false_iff_eq.mpr c34
         clear c34
         refine dite ((wrap64 (t302 - t303)) = 353) (fun c35 => ?pc35) (fun c35 => ?nc35)
         case' pc35 =>
          rw [if_pos c35] at H
          have c35b0 : ((wrap64 (t302 - t303)) == 353) = true := beq_iff_eq.mpr c35
          have c35b1 : ((wrap64 (t302 - t303)) != 353) = false := bne_eq_false_iff_eq.mpr c35
          clear c35
          obtain rfl := Option.some.inj H
         case' nc35 =>
          rw [if_neg c35] at H
          have c35b0 : ((wrap64 (t302 - t303)) == 353) = false := beq_eq_false_iff_ne.mpr c35
          have c35b1 : ((wrap64 (t302 - t303)) != 353) = true := bne_iff_ne.mpr c35
          refine dite ((wrap64 (t302 - t303)) = 383) (fun c36 => ?pc36) (fun c36 => ?nc36)
          case' pc36 =>
           rw [if_pos c36] at H
           have c36b0 : ((wrap64 (t302 - t303)) == 383) = true := beq_iff_eq.mpr c36
           have c36b1 : ((wrap64 (t302 - t303)) != 383) = false := bne_eq_false_iff_eq.mpr c36
           clear c36
           obtain rfl := Option.some.inj H
          case' nc36 =>
           rw [if_neg c36] at H
           have c36b0 : ((wrap64 (t302 - t303)) == 383) = false := beq_eq_false_iff_ne.mpr c36
           have c36b1 : ((wrap64 (t302 - t303)) != 383) = true := bne_iff_ne.mpr c36
           obtain rfl := Option.some.inj H
        case' nc34 =>
         rw [if_neg c34] at H
         have c34b0 : (a1 == 9) = false := beq_eq_false_iff_ne.mpr c34
         have c34b1 : (a1 != 9) = true := bne_iff_ne.mpr c34
         obtain rfl := Option.some.inj H
 all_goals
  go_enter Tryz.func73, Tryz.ntmps73
  first
  | (go_wp2_with (first | ((with_reducible refine gate_callee (f := 71) rfl ?_); refine gm_ (some 8) Tryz.func71 #[.int .i64 (wrap64 (a0 + 1))] ?_; (with_reducible refine (trystref01_newYear.calls (wrap64 (a0 + 1)) t302 _ A3.out).mono ?_); rintro e w' ⟨rfl, ⟨nd, rfl⟩⟩; refine ⟨_, rfl, ?_⟩) | ((with_reducible refine gate_callee (f := 71) rfl ?_); refine gm_ (some 10) Tryz.func71 #[.int .i64 a0] ?_; (with_reducible refine (trystref01_newYear.calls a0 t303 _ A4.out).mono ?_); rintro e w' ⟨rfl, ⟨nd, rfl⟩⟩; refine ⟨_, rfl, ?_⟩)); go_ret; exact ⟨by first | rfl | simp | simp [*] | simp [bne_nil_], by repeat (first | exact Drawn0.refl _ | apply Drawn0.step)⟩)
  | (go_wp2_with (first | ((with_reducible refine gate_callee (f := 71) rfl ?_); refine gm_ (some 8) Tryz.func71 #[.int .i64 (wrap64 (a0 + 1))] ?_; (with_reducible refine (trystref01_newYear.calls (wrap64 (a0 + 1)) t302 _ A3.out).mono ?_); rintro e w' ⟨rfl, ⟨nd, rfl⟩⟩; refine ⟨_, rfl, ?_⟩) | ((with_reducible refine gate_callee (f := 71) rfl ?_); refine gm_ (some 10) Tryz.func71 #[.int .i64 a0] ?_; (with_reducible refine (trystref01_newYear.calls a0 t303 _ A4.out).mono ?_); rintro e w' ⟨rfl, ⟨nd, rfl⟩⟩; refine ⟨_, rfl, ?_⟩) | (go_at_call 75; (with_reducible refine (trystref01_hebrewLeap.calls a0 true _ A11.out).mono ?_); rintro e w' ⟨rfl, ⟨nd, rfl⟩⟩)); go_ret; exact ⟨by first | rfl | simp | simp [*] | simp [bne_nil_], by repeat (first | exact Drawn0.refl _ | apply Drawn0.step)⟩)
  | (go_wp2_with (first | ((with_reducible refine gate_callee (f := 71) rfl ?_); refine gm_ (some 8) Tryz.func71 #[.int .i64 (wrap64 (a0 + 1))] ?_; (with_reducible refine (trystref01_newYear.calls (wrap64 (a0 + 1)) t302 _ A3.out).mono ?_); rintro e w' ⟨rfl, ⟨nd, rfl⟩⟩; refine ⟨_, rfl, ?_⟩) | ((with_reducible refine gate_callee (f := 71) rfl ?_); refine gm_ (some 10) Tryz.func71 #[.int .i64 a0] ?_; (with_reducible refine (trystref01_newYear.calls a0 t303 _ A4.out).mono ?_); rintro e w' ⟨rfl, ⟨nd, rfl⟩⟩; refine ⟨_, rfl, ?_⟩) | (go_at_call 75; (with_reducible refine (trystref01_hebrewLeap.calls a0 false _ A11.out).mono ?_); rintro e w' ⟨rfl, ⟨nd, rfl⟩⟩)); go_ret; exact ⟨by first | rfl | simp | simp [*] | simp [bne_nil_], by repeat (first | exact Drawn0.refl _ | apply Drawn0.step)⟩)

/-! ### trystref01_hebrew: function 72 -/
mutual
def trystref01_hebrew.j0 : Nat → Int → Int → Int → Int → Option (Int)
 | 0, _, _, _, _ => none
 | k + 1, x0, x1, x2, x7 => (trystref01_newYear.f x0).bind fun t306 => (if x1 < 7 then (trystref01_hebrew.l0 k x0 x1 x7 (wrap64 ((wrap64 (t306 + x2)) - 1)) 7) else (trystref01_hebrew.l2 k x0 x1 (wrap64 ((wrap64 (t306 + x2)) - 1)) 7))
def trystref01_hebrew.l0 : Nat → Int → Int → Int → Int → Int → Option (Int)
 | 0, _, _, _, _, _ => none
 | k + 1, x0, x1, x7, x8, x9 => if x9 ≤ x7 then ((trystref01_hebrewMonth.f x0 x9).bind fun t307 => (trystref01_hebrew.l0 k x0 x1 x7 (wrap64 (x8 + t307)) (wrap64 (x9 + 1)))) else (trystref01_hebrew.l1 k x0 x1 x8 1)
def trystref01_hebrew.l1 : Nat → Int → Int → Int → Int → Option (Int)
 | 0, _, _, _, _ => none
 | k + 1, x0, x1, x8, x10 => if x10 < x1 then ((trystref01_hebrewMonth.f x0 x10).bind fun t308 => (trystref01_hebrew.l1 k x0 x1 (wrap64 (x8 + t308)) (wrap64 (x10 + 1)))) else (some x8)
def trystref01_hebrew.l2 : Nat → Int → Int → Int → Int → Option (Int)
 | 0, _, _, _, _ => none
 | k + 1, x0, x1, x8, x11 => if x11 < x1 then ((trystref01_hebrewMonth.f x0 x11).bind fun t309 => (trystref01_hebrew.l2 k x0 x1 (wrap64 (x8 + t309)) (wrap64 (x11 + 1)))) else (some x8)
end
def trystref01_hebrew.f (k : Nat) (a0 : Int) (a1 : Int) (a2 : Int) : Option (Int) := (trystref01_hebrewLeap.f a0).bind fun t305 => (if t305 = true then (trystref01_hebrew.j0 k a0 a1 a2 13) else (trystref01_hebrew.j0 k a0 a1 a2 12))
set_option maxHeartbeats 8000000 in
set_option maxRecDepth 100000 in
theorem trystref01_hebrew.calls (k : Nat) (a0 : Int) (a1 : Int) (a2 : Int) (r : Int) (w : World) (h : trystref01_hebrew.f k a0 a1 a2 = some r) :
  Calls Tryz.prog 72 #[.int .i64 a0, .int .i64 a1, .int .i64 a2] w fun e w' => e = .returned (.int .i64 r) ∧ Drawn0 w w' := by
 have H : ((trystref01_hebrewLeap.f a0).bind fun t305 => (if t305 = true then (trystref01_hebrew.j0 k a0 a1 a2 13) else (trystref01_hebrew.j0 k a0 a1 a2 12))) = some r := h
 clear h
 replace H := Option.bind_eq_some_iff.mp H
 obtain ⟨t305, A40, H⟩ := H
 replace H : (if t305 = true then (trystref01_hebrew.j0 k a0 a1 a2 13) else (trystref01_hebrew.j0 k a0 a1 a2 12)) = some r := H
 have A4 := Aside0.mk A40
 clear A40
 have HC5 := Aside0.mk H
 clear H
 go_enter Tryz.func72, Tryz.ntmps72
 go_upto_if 13 with (first | ((with_reducible refine gate_callee (f := 75) rfl ?_); refine gm_ (some 13) Tryz.func75 #[.int .i64 a0] ?_; (with_reducible refine (trystref01_hebrewLeap.calls a0 t305 _ A4.out).mono ?_); rintro e w' ⟨rfl, ⟨nd, rfl⟩⟩; refine ⟨_, rfl, ?_⟩))
 (try simp only [Act.put, List.setIfInBounds_toArray, List.set_cons_zero, List.set_cons_succ])
 go_cut [7] (fun v7 wc => ∃ (kq : Nat) (x7_4 : Int), v7 = .int .i64 x7_4 ∧ Aside0 (trystref01_hebrew.j0 kq a0 a1 a2 x7_4 = some r) ∧ Aside0 (kq ≤ k) ∧ Drawn0 w wc)
 case first =>
  have H := HC5.out
  clear HC5
  by_cases c6 : t305 = true
  ·subst c6
   have H1 : (trystref01_hebrew.j0 k a0 a1 a2 13) = some r := by rw [if_pos rfl] at H; exact H
   clear H
   have H := H1
   clear H1
   have H' := Aside0.mk H
   clear H
   go_wp2
   go_meet
   case rel => exact ⟨_, (13), (by first | rfl | (simp; done) | (simp [*]; done)), H', ⟨by first | omega | exact Nat.le_refl _⟩, by repeat (first | exact Drawn0.refl _ | apply Drawn0.step)⟩
  ·replace c6 := Bool.eq_false_iff.mpr c6
   subst c6
   have H1 : (trystref01_hebrew.j0 k a0 a1 a2 12) = some r := by rw [if_neg (show ¬ (false = true) by decide)] at H; exact H
   clear H
   have H := H1
   clear H1
   have H' := Aside0.mk H
   clear H
   go_wp2
   go_meet
   case rel => exact ⟨_, (12), (by first | rfl | (simp; done) | (simp [*]; done)), H', ⟨by first | omega | exact Nat.le_refl _⟩, by repeat (first | exact Drawn0.refl _ | apply Drawn0.step)⟩
 case rest =>
  clear HC5
  try clear p2
  try clear c6
  obtain ⟨kq, x7_4, rfl, HA, HJ4, ⟨mc4, rfl⟩⟩ := hcut
  cases kq with
  | zero => exact absurd HA.out (by simp [trystref01_hebrew.j0])
  | succ kj4 =>
   have H := HA.out
   clear HA
   simp only [trystref01_hebrew.j0] at H
   replace H := Option.bind_eq_some_iff.mp H
   obtain ⟨t306, A70, H⟩ := H
   replace H : (if a1 < 7 then (trystref01_hebrew.l0 kj4 a0 a1 x7_4 (wrap64 ((wrap64 (t306 + a2)) - 1)) 7) else (trystref01_hebrew.l2 kj4 a0 a1 (wrap64 ((wrap64 (t306 + a2)) - 1)) 7)) = some r := H
   have A7 := Aside0.mk A70
   clear A70
   by_cases c8 : a1 < 7
   ·rw [if_pos c8] at H
    have c8b0 : decide (a1 < 7) = true := decide_eq_true c8
    clear c8
    have H' := Aside0.mk H
    clear H
    go_wp2_with (first | ((with_reducible refine gate_callee (f := 71) rfl ?_); refine gm_ (some 15) Tryz.func71 #[.int .i64 a0] ?_; (with_reducible refine (trystref01_newYear.calls a0 t306 _ A7.out).mono ?_); rintro e w' ⟨rfl, ⟨nd, rfl⟩⟩; refine ⟨_, rfl, ?_⟩))
    go_loopg [8, 9] kj4 (fun kq v8 v9 w' => ∃ (x8_2 : Int) (x9_2 : Int), v8 = .int .i64 x8_2 ∧ v9 = .int .i64 x9_2 ∧ Aside0 (trystref01_hebrew.l0 kq a0 a1 x7_4 x8_2 x9_2 = some r) ∧ Aside0 (kq ≤ kj4) ∧ Drawn0 w w')
    case atStart => exact ⟨(wrap64 ((wrap64 (t306 + a2)) - 1)), (7), (by first | rfl | (simp; done) | (simp [*]; done)), (by first | rfl | (simp; done) | (simp [*]; done)), H', ⟨Nat.le_refl _⟩, by repeat (first | exact Drawn0.refl _ | apply Drawn0.step)⟩
    case round =>
     clear H'
     try clear p2
     try clear c4
     try clear c6
     try clear p6
     try clear c7
     try clear c8
     try clear c8b0
     try clear p2
     obtain ⟨x8_2, x9_2, rfl, rfl, HA, HK2, ⟨m2, rfl⟩⟩ := hrel
     cases gk with
     | zero => exact absurd HA.out (by simp [trystref01_hebrew.l0])
     | succ k2 =>
      have H := HA.out
      clear HA
      simp only [trystref01_hebrew.l0] at H
      by_cases c9 : x9_2 ≤ x7_4
      ·rw [if_pos c9] at H
       have c9b0 : decide (x9_2 ≤ x7_4) = true := decide_eq_true c9
       clear c9
       replace H := Option.bind_eq_some_iff.mp H
       obtain ⟨t307, A100, H⟩ := H
       replace H : (trystref01_hebrew.l0 k2 a0 a1 x7_4 (wrap64 (x8_2 + t307)) (wrap64 (x9_2 + 1))) = some r := H
       have A10 := Aside0.mk A100
       clear A100
       have H' := Aside0.mk H
       clear H
       go_wp2_with (first | ((with_reducible refine gate_callee (f := 73) rfl ?_); refine gm_ (some 29) Tryz.func73 #[.int .i64 a0, .int .i64 x9_2] ?_; (with_reducible refine (trystref01_hebrewMonth.calls a0 x9_2 t307 _ A10.out).mono ?_); rintro e w' ⟨rfl, ⟨nd, rfl⟩⟩; refine ⟨_, rfl, ?_⟩))
       go_roundg k2
       case measure => have := HJ4.out; have := HK2.out; omega
       case rel => exact ⟨(wrap64 (x8_2 + t307)), (wrap64 (x9_2 + 1)), (by first | rfl | (simp; done) | (simp [*]; done)), (by first | rfl | (simp; done) | (simp [*]; done)), H', ⟨by have := HJ4.out; have := HK2.out; omega⟩, by repeat (first | exact Drawn0.refl _ | apply Drawn0.step)⟩
      ·rw [if_neg c9] at H
       have c9b0 : decide (x9_2 ≤ x7_4) = false := decide_eq_false c9
       clear c9
       have H' := Aside0.mk H
       clear H
       go_wp2
       go_loopg [8, 10] k2 (fun kq v8 v10 w' => ∃ (x8_3 : Int) (x10_3 : Int), v8 = .int .i64 x8_3 ∧ v10 = .int .i64 x10_3 ∧ Aside0 (trystref01_hebrew.l1 kq a0 a1 x8_3 x10_3 = some r) ∧ Aside0 (kq ≤ k2) ∧ Drawn0 w w')
       case atStart => exact ⟨(x8_2), (1), (by first | rfl | (simp; done) | (simp [*]; done)), (by first | rfl | (simp; done) | (simp [*]; done)), H', ⟨Nat.le_refl _⟩, by repeat (first | exact Drawn0.refl _ | apply Drawn0.step)⟩
       case round =>
        clear H'
        try clear p2
        try clear c4
        try clear c6
        try clear p6
        try clear c7
        try clear c8
        try clear c8b0
        try clear c9
        try clear c9b0
        try clear p2
        try clear p6
        obtain ⟨x8_3, x10_3, rfl, rfl, HA, HK3, ⟨m3, rfl⟩⟩ := hrel
        cases gk with
        | zero => exact absurd HA.out (by simp [trystref01_hebrew.l1])
        | succ k3 =>
         have H := HA.out
         clear HA
         simp only [trystref01_hebrew.l1] at H
         by_cases c11 : x10_3 < a1
         ·rw [if_pos c11] at H
          have c11b0 : decide (x10_3 < a1) = true := decide_eq_true c11
          clear c11
          replace H := Option.bind_eq_some_iff.mp H
          obtain ⟨t308, A120, H⟩ := H
          replace H : (trystref01_hebrew.l1 k3 a0 a1 (wrap64 (x8_3 + t308)) (wrap64 (x10_3 + 1))) = some r := H
          have A12 := Aside0.mk A120
          clear A120
          have H' := Aside0.mk H
          clear H
          go_wp2_with (first | ((with_reducible refine gate_callee (f := 73) rfl ?_); refine gm_ (some 39) Tryz.func73 #[.int .i64 a0, .int .i64 x10_3] ?_; (with_reducible refine (trystref01_hebrewMonth.calls a0 x10_3 t308 _ A12.out).mono ?_); rintro e w' ⟨rfl, ⟨nd, rfl⟩⟩; refine ⟨_, rfl, ?_⟩))
          go_roundg k3
          case measure => have := HJ4.out; have := HK2.out; have := HK3.out; omega
          case rel => exact ⟨(wrap64 (x8_3 + t308)), (wrap64 (x10_3 + 1)), (by first | rfl | (simp; done) | (simp [*]; done)), (by first | rfl | (simp; done) | (simp [*]; done)), H', ⟨by have := HJ4.out; have := HK2.out; have := HK3.out; omega⟩, by repeat (first | exact Drawn0.refl _ | apply Drawn0.step)⟩
         ·rw [if_neg c11] at H
          have c11b0 : decide (x10_3 < a1) = false := decide_eq_false c11
          clear c11
          obtain rfl := Option.some.inj H
          go_wp2
          go_ret
          exact ⟨by first | rfl | simp | simp [*] | simp [bne_nil_], by repeat (first | exact Drawn0.refl _ | apply Drawn0.step)⟩
   ·rw [if_neg c8] at H
    have c8b0 : decide (a1 < 7) = false := decide_eq_false c8
    clear c8
    have H' := Aside0.mk H
    clear H
    go_wp2_with (first | ((with_reducible refine gate_callee (f := 71) rfl ?_); refine gm_ (some 15) Tryz.func71 #[.int .i64 a0] ?_; (with_reducible refine (trystref01_newYear.calls a0 t306 _ A7.out).mono ?_); rintro e w' ⟨rfl, ⟨nd, rfl⟩⟩; refine ⟨_, rfl, ?_⟩))
    go_loopg [8, 11] kj4 (fun kq v8 v11 w' => ∃ (x8_2 : Int) (x11_2 : Int), v8 = .int .i64 x8_2 ∧ v11 = .int .i64 x11_2 ∧ Aside0 (trystref01_hebrew.l2 kq a0 a1 x8_2 x11_2 = some r) ∧ Aside0 (kq ≤ kj4) ∧ Drawn0 w w')
    case atStart => exact ⟨(wrap64 ((wrap64 (t306 + a2)) - 1)), (7), (by first | rfl | (simp; done) | (simp [*]; done)), (by first | rfl | (simp; done) | (simp [*]; done)), H', ⟨Nat.le_refl _⟩, by repeat (first | exact Drawn0.refl _ | apply Drawn0.step)⟩
    case round =>
     clear H'
     try clear c1
     try clear p2
     try clear c4
     try clear c6
     try clear p6
     try clear c7
     try clear c8
     try clear c8b0
     try clear c9
     try clear c9b0
     try clear c11
     try clear c11b0
     try clear p2
     try clear p6
     obtain ⟨x8_2, x11_2, rfl, rfl, HA, HK2, ⟨m2, rfl⟩⟩ := hrel
     cases gk with
     | zero => exact absurd HA.out (by simp [trystref01_hebrew.l2])
     | succ k2 =>
      have H := HA.out
      clear HA
      simp only [trystref01_hebrew.l2] at H
      by_cases c13 : x11_2 < a1
      ·rw [if_pos c13] at H
       have c13b0 : decide (x11_2 < a1) = true := decide_eq_true c13
       clear c13
       replace H := Option.bind_eq_some_iff.mp H
       obtain ⟨t309, A140, H⟩ := H
       replace H : (trystref01_hebrew.l2 k2 a0 a1 (wrap64 (x8_2 + t309)) (wrap64 (x11_2 + 1))) = some r := H
       have A14 := Aside0.mk A140
       clear A140
       have H' := Aside0.mk H
       clear H
       go_wp2_with (first | ((with_reducible refine gate_callee (f := 73) rfl ?_); refine gm_ (some 50) Tryz.func73 #[.int .i64 a0, .int .i64 x11_2] ?_; (with_reducible refine (trystref01_hebrewMonth.calls a0 x11_2 t309 _ A14.out).mono ?_); rintro e w' ⟨rfl, ⟨nd, rfl⟩⟩; refine ⟨_, rfl, ?_⟩))
       go_roundg k2
       case measure => have := HJ4.out; have := HK2.out; omega
       case rel => exact ⟨(wrap64 (x8_2 + t309)), (wrap64 (x11_2 + 1)), (by first | rfl | (simp; done) | (simp [*]; done)), (by first | rfl | (simp; done) | (simp [*]; done)), H', ⟨by have := HJ4.out; have := HK2.out; omega⟩, by repeat (first | exact Drawn0.refl _ | apply Drawn0.step)⟩
      ·rw [if_neg c13] at H
       have c13b0 : decide (x11_2 < a1) = false := decide_eq_false c13
       clear c13
       obtain rfl := Option.some.inj H
       go_wp2
       go_ret
       exact ⟨by first | rfl | simp | simp [*] | simp [bne_nil_], by repeat (first | exact Drawn0.refl _ | apply Drawn0.step)⟩

/-! ### trystref01_Leap: function 111 -/
def trystref01_Leap.f (a0 : Int) : Option (Bool) := (trystref01_Mod.f a0 4).bind fun t310 => (if t310 = 0 then ((trystref01_Mod.f a0 400).bind fun t311 => (if t311 = 100 then (some false) else ((trystref01_Mod.f a0 400).bind fun t312 => (if t312 = 200 then (some false) else ((trystref01_Mod.f a0 400).bind fun t313 => (some (t313 != 300))))))) else (some false))
set_option maxHeartbeats 8000000 in
set_option maxRecDepth 100000 in
theorem trystref01_Leap.calls (a0 : Int) (r : Bool) (w : World) (h : trystref01_Leap.f a0 = some r) :
  Calls Tryz.prog 111 #[.int .i64 a0] w fun e w' => e = .returned (.bool r) ∧ Drawn0 w w' := by
 have H : ((trystref01_Mod.f a0 4).bind fun t310 => (if t310 = 0 then ((trystref01_Mod.f a0 400).bind fun t311 => (if t311 = 100 then (some false) else ((trystref01_Mod.f a0 400).bind fun t312 => (if t312 = 200 then (some false) else ((trystref01_Mod.f a0 400).bind fun t313 => (some (t313 != 300))))))) else (some false))) = some r := h
 clear h
 replace H := Option.bind_eq_some_iff.mp H
 obtain ⟨t310, A20, H⟩ := H
 replace H : (if t310 = 0 then ((trystref01_Mod.f a0 400).bind fun t311 => (if t311 = 100 then (some false) else ((trystref01_Mod.f a0 400).bind fun t312 => (if t312 = 200 then (some false) else ((trystref01_Mod.f a0 400).bind fun t313 => (some (t313 != 300))))))) else (some false)) = some r := H
 have A2 := Aside0.mk A20
 clear A20
 by_cases c3 : t310 = 0
 ·rw [if_pos c3] at H
  have c3b0 : (t310 == 0) = true := beq_iff_eq.mpr c3
  have c3b1 : (t310 != 0) = false := bne_eq_false_iff_eq.mpr c3
  clear c3
  replace H := Option.bind_eq_some_iff.mp H
  obtain ⟨t311, A40, H⟩ := H
  replace H : (if t311 = 100 then (some false) else ((trystref01_Mod.f a0 400).bind fun t312 => (if t312 = 200 then (some false) else ((trystref01_Mod.f a0 400).bind fun t313 => (some (t313 != 300)))))) = some r := H
  have A4 := Aside0.mk A40
  clear A40
  by_cases c5 : t311 = 100
  ·rw [if_pos c5] at H
   have c5b0 : (t311 == 100) = true := beq_iff_eq.mpr c5
   have c5b1 : (t311 != 100) = false := bne_eq_false_iff_eq.mpr c5
   clear c5
   obtain rfl := Option.some.inj H
   go_enter Tryz.func111, Tryz.ntmps111
   go_wp2_with (first | ((with_reducible refine gate_callee (f := 110) rfl ?_); refine gm_ (some 4) Tryz.func110 #[.int .i64 a0, .int .i64 4] ?_; (with_reducible refine (trystref01_Mod.calls a0 4 t310 _ A2.out).mono ?_); rintro e w' ⟨rfl, ⟨nd, rfl⟩⟩; refine ⟨_, rfl, ?_⟩) | (go_at_call 110; (with_reducible refine (trystref01_Mod.calls a0 400 t311 _ A4.out).mono ?_); rintro e w' ⟨rfl, ⟨nd, rfl⟩⟩))
   go_ret
   exact ⟨by first | rfl | simp | simp [*] | simp [bne_nil_], by repeat (first | exact Drawn0.refl _ | apply Drawn0.step)⟩
  ·rw [if_neg c5] at H
   have c5b0 : (t311 == 100) = false := beq_eq_false_iff_ne.mpr c5
   have c5b1 : (t311 != 100) = true := bne_iff_ne.mpr c5
   replace H := Option.bind_eq_some_iff.mp H
   obtain ⟨t312, A60, H⟩ := H
   have A6d := Option.some.inj (A4.out.symm.trans A60)
   clear A60
   subst A6d
   replace H : (if t311 = 200 then (some false) else ((trystref01_Mod.f a0 400).bind fun t313 => (some (t313 != 300)))) = some r := H
   by_cases c7 : t311 = 200
   ·rw [if_pos c7] at H
    have c7b0 : (t311 == 200) = true := beq_iff_eq.mpr c7
    have c7b1 : (t311 != 200) = false := bne_eq_false_iff_eq.mpr c7
    clear c7
    obtain rfl := Option.some.inj H
    go_enter Tryz.func111, Tryz.ntmps111
    go_wp2_with (first | ((with_reducible refine gate_callee (f := 110) rfl ?_); refine gm_ (some 4) Tryz.func110 #[.int .i64 a0, .int .i64 4] ?_; (with_reducible refine (trystref01_Mod.calls a0 4 t310 _ A2.out).mono ?_); rintro e w' ⟨rfl, ⟨nd, rfl⟩⟩; refine ⟨_, rfl, ?_⟩) | (go_at_call 110; (with_reducible refine (trystref01_Mod.calls a0 400 t311 _ A4.out).mono ?_); rintro e w' ⟨rfl, ⟨nd, rfl⟩⟩) | (go_at_call 110; (with_reducible refine (trystref01_Mod.calls a0 400 t311 _ A4.out).mono ?_); rintro e w' ⟨rfl, ⟨nd, rfl⟩⟩))
    go_ret
    exact ⟨by first | rfl | simp | simp [*] | simp [bne_nil_], by repeat (first | exact Drawn0.refl _ | apply Drawn0.step)⟩
   ·rw [if_neg c7] at H
    have c7b0 : (t311 == 200) = false := beq_eq_false_iff_ne.mpr c7
    have c7b1 : (t311 != 200) = true := bne_iff_ne.mpr c7
    replace H := Option.bind_eq_some_iff.mp H
    obtain ⟨t313, A80, H⟩ := H
    have A8d := Option.some.inj (A4.out.symm.trans A80)
    clear A80
    subst A8d
    replace H : (some (t311 != 300)) = some r := H
    obtain rfl := Option.some.inj H
    go_enter Tryz.func111, Tryz.ntmps111
    go_wp2_with (first | ((with_reducible refine gate_callee (f := 110) rfl ?_); refine gm_ (some 4) Tryz.func110 #[.int .i64 a0, .int .i64 4] ?_; (with_reducible refine (trystref01_Mod.calls a0 4 t310 _ A2.out).mono ?_); rintro e w' ⟨rfl, ⟨nd, rfl⟩⟩; refine ⟨_, rfl, ?_⟩) | (go_at_call 110; (with_reducible refine (trystref01_Mod.calls a0 400 t311 _ A4.out).mono ?_); rintro e w' ⟨rfl, ⟨nd, rfl⟩⟩) | (go_at_call 110; (with_reducible refine (trystref01_Mod.calls a0 400 t311 _ A4.out).mono ?_); rintro e w' ⟨rfl, ⟨nd, rfl⟩⟩) | (go_at_call 110; (with_reducible refine (trystref01_Mod.calls a0 400 t311 _ A4.out).mono ?_); rintro e w' ⟨rfl, ⟨nd, rfl⟩⟩))
    go_ret
    exact ⟨by first | rfl | simp | simp [*] | simp [bne_nil_], by repeat (first | exact Drawn0.refl _ | apply Drawn0.step)⟩
 ·rw [if_neg c3] at H
  have c3b0 : (t310 == 0) = false := beq_eq_false_iff_ne.mpr c3
  have c3b1 : (t310 != 0) = true := bne_iff_ne.mpr c3
  obtain rfl := Option.some.inj H
  go_enter Tryz.func111, Tryz.ntmps111
  go_wp2_with (first | ((with_reducible refine gate_callee (f := 110) rfl ?_); refine gm_ (some 4) Tryz.func110 #[.int .i64 a0, .int .i64 4] ?_; (with_reducible refine (trystref01_Mod.calls a0 4 t310 _ A2.out).mono ?_); rintro e w' ⟨rfl, ⟨nd, rfl⟩⟩; refine ⟨_, rfl, ?_⟩))
  go_ret
  exact ⟨by first | rfl | simp | simp [*] | simp [bne_nil_], by repeat (first | exact Drawn0.refl _ | apply Drawn0.step)⟩

/-! ### trystref01_gregorian: function 76 -/
def trystref01_gregorian.j0 : Nat → Int → Int → Bool → Option (Int)
 | 0, _, _, _ => none
 | k + 1, x1, x7, x35 => if x35 = true then (some (wrap64 (x7 - 1))) else (if x1 > 2 then (some (wrap64 (x7 - 2))) else (some x7))
def trystref01_gregorian.f (k : Nat) (a0 : Int) (a1 : Int) (a2 : Int) : Option (Int) := (trystref01_Floor.f (wrap64 (a0 - 1)) 4).bind fun t314 => ((trystref01_Floor.f (wrap64 (a0 - 1)) 100).bind fun t315 => ((trystref01_Floor.f (wrap64 (a0 - 1)) 400).bind fun t316 => (if a1 > 2 then ((trystref01_Leap.f a0).bind fun t317 => (trystref01_gregorian.j0 k a1 (wrap64 ((wrap64 ((wrap64 ((wrap64 ((wrap64 ((wrap64 (365 * (wrap64 (a0 - 1)))) + t314)) - t315)) + t316)) + (wrap64 (Int.tdiv (wrap64 ((wrap64 (367 * a1)) - 362)) 12)))) + a2)) t317)) else (trystref01_gregorian.j0 k a1 (wrap64 ((wrap64 ((wrap64 ((wrap64 ((wrap64 ((wrap64 (365 * (wrap64 (a0 - 1)))) + t314)) - t315)) + t316)) + (wrap64 (Int.tdiv (wrap64 ((wrap64 (367 * a1)) - 362)) 12)))) + a2)) false))))
set_option maxHeartbeats 8000000 in
set_option maxRecDepth 100000 in
theorem trystref01_gregorian.calls (k : Nat) (a0 : Int) (a1 : Int) (a2 : Int) (r : Int) (w : World) (h : trystref01_gregorian.f k a0 a1 a2 = some r) :
  Calls Tryz.prog 76 #[.int .i64 a0, .int .i64 a1, .int .i64 a2] w fun e w' => e = .returned (.int .i64 r) ∧ Drawn0 w w' := by
 have H : ((trystref01_Floor.f (wrap64 (a0 - 1)) 4).bind fun t314 => ((trystref01_Floor.f (wrap64 (a0 - 1)) 100).bind fun t315 => ((trystref01_Floor.f (wrap64 (a0 - 1)) 400).bind fun t316 => (if a1 > 2 then ((trystref01_Leap.f a0).bind fun t317 => (trystref01_gregorian.j0 k a1 (wrap64 ((wrap64 ((wrap64 ((wrap64 ((wrap64 ((wrap64 (365 * (wrap64 (a0 - 1)))) + t314)) - t315)) + t316)) + (wrap64 (Int.tdiv (wrap64 ((wrap64 (367 * a1)) - 362)) 12)))) + a2)) t317)) else (trystref01_gregorian.j0 k a1 (wrap64 ((wrap64 ((wrap64 ((wrap64 ((wrap64 ((wrap64 (365 * (wrap64 (a0 - 1)))) + t314)) - t315)) + t316)) + (wrap64 (Int.tdiv (wrap64 ((wrap64 (367 * a1)) - 362)) 12)))) + a2)) false))))) = some r := h
 clear h
 replace H := Option.bind_eq_some_iff.mp H
 obtain ⟨t314, A40, H⟩ := H
 replace H : ((trystref01_Floor.f (wrap64 (a0 - 1)) 100).bind fun t315 => ((trystref01_Floor.f (wrap64 (a0 - 1)) 400).bind fun t316 => (if a1 > 2 then ((trystref01_Leap.f a0).bind fun t317 => (trystref01_gregorian.j0 k a1 (wrap64 ((wrap64 ((wrap64 ((wrap64 ((wrap64 ((wrap64 (365 * (wrap64 (a0 - 1)))) + t314)) - t315)) + t316)) + (wrap64 (Int.tdiv (wrap64 ((wrap64 (367 * a1)) - 362)) 12)))) + a2)) t317)) else (trystref01_gregorian.j0 k a1 (wrap64 ((wrap64 ((wrap64 ((wrap64 ((wrap64 ((wrap64 (365 * (wrap64 (a0 - 1)))) + t314)) - t315)) + t316)) + (wrap64 (Int.tdiv (wrap64 ((wrap64 (367 * a1)) - 362)) 12)))) + a2)) false)))) = some r := H
 have A4 := Aside0.mk A40
 clear A40
 replace H := Option.bind_eq_some_iff.mp H
 obtain ⟨t315, A50, H⟩ := H
 replace H : ((trystref01_Floor.f (wrap64 (a0 - 1)) 400).bind fun t316 => (if a1 > 2 then ((trystref01_Leap.f a0).bind fun t317 => (trystref01_gregorian.j0 k a1 (wrap64 ((wrap64 ((wrap64 ((wrap64 ((wrap64 ((wrap64 (365 * (wrap64 (a0 - 1)))) + t314)) - t315)) + t316)) + (wrap64 (Int.tdiv (wrap64 ((wrap64 (367 * a1)) - 362)) 12)))) + a2)) t317)) else (trystref01_gregorian.j0 k a1 (wrap64 ((wrap64 ((wrap64 ((wrap64 ((wrap64 ((wrap64 (365 * (wrap64 (a0 - 1)))) + t314)) - t315)) + t316)) + (wrap64 (Int.tdiv (wrap64 ((wrap64 (367 * a1)) - 362)) 12)))) + a2)) false))) = some r := H
 have A5 := Aside0.mk A50
 clear A50
 replace H := Option.bind_eq_some_iff.mp H
 obtain ⟨t316, A60, H⟩ := H
 replace H : (if a1 > 2 then ((trystref01_Leap.f a0).bind fun t317 => (trystref01_gregorian.j0 k a1 (wrap64 ((wrap64 ((wrap64 ((wrap64 ((wrap64 ((wrap64 (365 * (wrap64 (a0 - 1)))) + t314)) - t315)) + t316)) + (wrap64 (Int.tdiv (wrap64 ((wrap64 (367 * a1)) - 362)) 12)))) + a2)) t317)) else (trystref01_gregorian.j0 k a1 (wrap64 ((wrap64 ((wrap64 ((wrap64 ((wrap64 ((wrap64 (365 * (wrap64 (a0 - 1)))) + t314)) - t315)) + t316)) + (wrap64 (Int.tdiv (wrap64 ((wrap64 (367 * a1)) - 362)) 12)))) + a2)) false)) = some r := H
 have A6 := Aside0.mk A60
 clear A60
 have HC7 := Aside0.mk H
 clear H
 go_enter Tryz.func76, Tryz.ntmps76
 go_upto_region 2 with (first | ((with_reducible refine gate_callee (f := 33) rfl ?_); refine gm_ (some 13) Tryz.func33 #[.int .i64 (wrap64 (a0 - 1)), .int .i64 4] ?_; (with_reducible refine (trystref01_Floor.calls (wrap64 (a0 - 1)) 4 t314 _ A4.out).mono ?_); rintro e w' ⟨rfl, ⟨nd, rfl⟩⟩; refine ⟨_, rfl, ?_⟩) | ((with_reducible refine gate_callee (f := 33) rfl ?_); refine gm_ (some 17) Tryz.func33 #[.int .i64 (wrap64 (a0 - 1)), .int .i64 100] ?_; (with_reducible refine (trystref01_Floor.calls (wrap64 (a0 - 1)) 100 t315 _ A5.out).mono ?_); rintro e w' ⟨rfl, ⟨nd, rfl⟩⟩; refine ⟨_, rfl, ?_⟩) | ((with_reducible refine gate_callee (f := 33) rfl ?_); refine gm_ (some 21) Tryz.func33 #[.int .i64 (wrap64 (a0 - 1)), .int .i64 400] ?_; (with_reducible refine (trystref01_Floor.calls (wrap64 (a0 - 1)) 400 t316 _ A6.out).mono ?_); rintro e w' ⟨rfl, ⟨nd, rfl⟩⟩; refine ⟨_, rfl, ?_⟩))
 (try simp only [Act.put, List.setIfInBounds_toArray, List.set_cons_zero, List.set_cons_succ])
 go_cut [35] (fun v35 wc => ∃ (kq : Nat) (x35_6 : Bool), v35 = .bool x35_6 ∧ Aside0 (trystref01_gregorian.j0 kq a1 (wrap64 ((wrap64 ((wrap64 ((wrap64 ((wrap64 ((wrap64 (365 * (wrap64 (a0 - 1)))) + t314)) - t315)) + t316)) + (wrap64 (Int.tdiv (wrap64 ((wrap64 (367 * a1)) - 362)) 12)))) + a2)) x35_6 = some r) ∧ Aside0 (kq ≤ k) ∧ Drawn0 w wc)
 case first =>
  have H := HC7.out
  clear HC7
  by_cases c8 : a1 > 2
  ·rw [if_pos c8] at H
   have c8b0 : decide (2 < a1) = true := decide_eq_true c8
   clear c8
   (first | rw [c8b0] | (simp only [i64_w, i32_w]; rw [c8b0]) | skip)
   replace H := Option.bind_eq_some_iff.mp H
   obtain ⟨t317, A90, H⟩ := H
   replace H : (trystref01_gregorian.j0 k a1 (wrap64 ((wrap64 ((wrap64 ((wrap64 ((wrap64 ((wrap64 (365 * (wrap64 (a0 - 1)))) + t314)) - t315)) + t316)) + (wrap64 (Int.tdiv (wrap64 ((wrap64 (367 * a1)) - 362)) 12)))) + a2)) t317) = some r := H
   have A9 := Aside0.mk A90
   clear A90
   have H' := Aside0.mk H
   clear H
   go_wp2_with (first | (go_at_call 111; (with_reducible refine (trystref01_Leap.calls a0 t317 _ A9.out).mono ?_); rintro e w' ⟨rfl, ⟨nd, rfl⟩⟩))
   go_meet
   case rel => exact ⟨_, (t317), (by first | rfl | (simp; done) | (simp [*]; done)), H', ⟨by first | omega | exact Nat.le_refl _⟩, by repeat (first | exact Drawn0.refl _ | apply Drawn0.step)⟩
  ·rw [if_neg c8] at H
   have c8b0 : decide (2 < a1) = false := decide_eq_false c8
   clear c8
   (first | rw [c8b0] | (simp only [i64_w, i32_w]; rw [c8b0]) | skip)
   have H' := Aside0.mk H
   clear H
   go_wp2
   go_meet
   case rel => exact ⟨_, (false), (by first | rfl | (simp; done) | (simp [*]; done)), H', ⟨by first | omega | exact Nat.le_refl _⟩, by repeat (first | exact Drawn0.refl _ | apply Drawn0.step)⟩
 case rest =>
  clear HC7
  try clear p2
  try clear c3
  try clear p6
  try clear c7
  try clear c8
  try clear c8b0
  obtain ⟨kq, x35_6, rfl, HA, HJ6, ⟨mc6, rfl⟩⟩ := hcut
  cases kq with
  | zero => exact absurd HA.out (by simp [trystref01_gregorian.j0])
  | succ kj6 =>
   have H := HA.out
   clear HA
   simp only [trystref01_gregorian.j0] at H
   by_cases c10 : x35_6 = true
   ·subst c10
    have H1 : (some (wrap64 ((wrap64 ((wrap64 ((wrap64 ((wrap64 ((wrap64 ((wrap64 (365 * (wrap64 (a0 - 1)))) + t314)) - t315)) + t316)) + (wrap64 (Int.tdiv (wrap64 ((wrap64 (367 * a1)) - 362)) 12)))) + a2)) - 1))) = some r := by rw [if_pos rfl] at H; exact H
    clear H
    have H := H1
    clear H1
    obtain rfl := Option.some.inj H
    go_wp2
    go_ret
    exact ⟨by first | rfl | simp | simp [*] | simp [bne_nil_], by repeat (first | exact Drawn0.refl _ | apply Drawn0.step)⟩
   ·replace c10 := Bool.eq_false_iff.mpr c10
    subst c10
    have H1 : (if a1 > 2 then (some (wrap64 ((wrap64 ((wrap64 ((wrap64 ((wrap64 ((wrap64 ((wrap64 (365 * (wrap64 (a0 - 1)))) + t314)) - t315)) + t316)) + (wrap64 (Int.tdiv (wrap64 ((wrap64 (367 * a1)) - 362)) 12)))) + a2)) - 2))) else (some (wrap64 ((wrap64 ((wrap64 ((wrap64 ((wrap64 ((wrap64 (365 * (wrap64 (a0 - 1)))) + t314)) - t315)) + t316)) + (wrap64 (Int.tdiv (wrap64 ((wrap64 (367 * a1)) - 362)) 12)))) + a2)))) = some r := by rw [if_neg (show ¬ (false = true) by decide)] at H; exact H
    clear H
    have H := H1
    clear H1
    by_cases c11 : a1 > 2
    ·rw [if_pos c11] at H
     have c11b0 : decide (2 < a1) = true := decide_eq_true c11
     clear c11
     obtain rfl := Option.some.inj H
     go_wp2
     go_ret
     exact ⟨by first | rfl | simp | simp [*] | simp [bne_nil_], by repeat (first | exact Drawn0.refl _ | apply Drawn0.step)⟩
    ·rw [if_neg c11] at H
     have c11b0 : decide (2 < a1) = false := decide_eq_false c11
     clear c11
     obtain rfl := Option.some.inj H
     go_wp2
     go_ret
     exact ⟨by first | rfl | simp | simp [*] | simp [bne_nil_], by repeat (first | exact Drawn0.refl _ | apply Drawn0.step)⟩

/-! ### trystref01_Week1: function 74 -/
def trystref01_Week1.l0 : Nat → Int → Int → Option (Int)
 | 0, _, _ => none
 | k + 1, x1, x5 => (trystref01_Mod.f x5 7).bind fun t319 => (if t319 = x1 then (some x5) else (trystref01_Week1.l0 k x1 (wrap64 (x5 + 1))))
def trystref01_Week1.f (k : Nat) (a0 : Int) (a1 : Int) : Option (Int) := (trystref01_gregorian.f k a0 1 1).bind fun t318 => (trystref01_Week1.l0 k a1 (wrap64 (t318 - 3)))
set_option maxHeartbeats 8000000 in
set_option maxRecDepth 100000 in
theorem trystref01_Week1.calls (k : Nat) (a0 : Int) (a1 : Int) (r : Int) (w : World) (h : trystref01_Week1.f k a0 a1 = some r) :
  Calls Tryz.prog 74 #[.int .i64 a0, .int .i64 a1] w fun e w' => e = .returned (.int .i64 r) ∧ Drawn0 w w' := by
 have H : ((trystref01_gregorian.f k a0 1 1).bind fun t318 => (trystref01_Week1.l0 k a1 (wrap64 (t318 - 3)))) = some r := h
 clear h
 replace H := Option.bind_eq_some_iff.mp H
 obtain ⟨t318, A30, H⟩ := H
 replace H : (trystref01_Week1.l0 k a1 (wrap64 (t318 - 3))) = some r := H
 have A3 := Aside0.mk A30
 clear A30
 have H' := Aside0.mk H
 clear H
 go_enter Tryz.func74, Tryz.ntmps74
 go_wp2_with (first | ((with_reducible refine gate_callee (f := 76) rfl ?_); refine gm_ (some 7) Tryz.func76 #[.int .i64 a0, .int .i64 1, .int .i64 1] ?_; (with_reducible refine (trystref01_gregorian.calls k a0 1 1 t318 _ A3.out).mono ?_); rintro e w' ⟨rfl, ⟨nd, rfl⟩⟩; refine ⟨_, rfl, ?_⟩))
 go_loopg [5] k (fun kq v5 w' => ∃ (x5_1 : Int), v5 = .int .i64 x5_1 ∧ Aside0 (trystref01_Week1.l0 kq a1 x5_1 = some r) ∧ Aside0 (kq ≤ k) ∧ Drawn0 w w')
 case atStart => exact ⟨(wrap64 (t318 - 3)), (by first | rfl | (simp; done) | (simp [*]; done)), H', ⟨Nat.le_refl _⟩, by repeat (first | exact Drawn0.refl _ | apply Drawn0.step)⟩
 case round =>
  clear H'
  try clear p2
  obtain ⟨x5_1, rfl, HA, HK1, ⟨m1, rfl⟩⟩ := hrel
  cases gk with
  | zero => exact absurd HA.out (by simp [trystref01_Week1.l0])
  | succ k1 =>
   have H := HA.out
   clear HA
   simp only [trystref01_Week1.l0] at H
   replace H := Option.bind_eq_some_iff.mp H
   obtain ⟨t319, A40, H⟩ := H
   replace H : (if t319 = a1 then (some x5_1) else (trystref01_Week1.l0 k1 a1 (wrap64 (x5_1 + 1)))) = some r := H
   have A4 := Aside0.mk A40
   clear A40
   by_cases c5 : t319 = a1
   ·rw [if_pos c5] at H
    have c5b0 : (t319 == a1) = true := beq_iff_eq.mpr c5
    have c5b1 : (t319 != a1) = false := bne_eq_false_iff_eq.mpr c5
    clear c5
    obtain rfl := Option.some.inj H
    go_wp2_with (first | ((with_reducible refine gate_callee (f := 110) rfl ?_); refine gm_ (some 12) Tryz.func110 #[.int .i64 x5_1, .int .i64 7] ?_; (with_reducible refine (trystref01_Mod.calls x5_1 7 t319 _ A4.out).mono ?_); rintro e w' ⟨rfl, ⟨nd, rfl⟩⟩; refine ⟨_, rfl, ?_⟩))
    go_ret
    exact ⟨by first | rfl | simp | simp [*] | simp [bne_nil_], by repeat (first | exact Drawn0.refl _ | apply Drawn0.step)⟩
   ·rw [if_neg c5] at H
    have c5b0 : (t319 == a1) = false := beq_eq_false_iff_ne.mpr c5
    have c5b1 : (t319 != a1) = true := bne_iff_ne.mpr c5
    have H' := Aside0.mk H
    clear H
    go_wp2_with (first | ((with_reducible refine gate_callee (f := 110) rfl ?_); refine gm_ (some 12) Tryz.func110 #[.int .i64 x5_1, .int .i64 7] ?_; (with_reducible refine (trystref01_Mod.calls x5_1 7 t319 _ A4.out).mono ?_); rintro e w' ⟨rfl, ⟨nd, rfl⟩⟩; refine ⟨_, rfl, ?_⟩))
    go_roundg k1
    case measure => have := HK1.out; omega
    case rel => exact ⟨(wrap64 (x5_1 + 1)), (by first | rfl | (simp; done) | (simp [*]; done)), H', ⟨by have := HK1.out; omega⟩, by repeat (first | exact Drawn0.refl _ | apply Drawn0.step)⟩

/-! ### trystref01_julian: function 77 -/
def trystref01_julian.j0 : Nat → Int → Int → Bool → Option (Int)
 | 0, _, _, _ => none
 | k + 1, x1, x7, x29 => if x29 = true then (some (wrap64 (x7 - 1))) else (if x1 > 2 then (some (wrap64 (x7 - 2))) else (some x7))
def trystref01_julian.f (k : Nat) (a0 : Int) (a1 : Int) (a2 : Int) : Option (Int) := (trystref01_Floor.f (wrap64 (a0 - 1)) 4).bind fun t320 => (if a1 > 2 then ((trystref01_Mod.f a0 4).bind fun t321 => (trystref01_julian.j0 k a1 (wrap64 ((wrap64 ((wrap64 ((wrap64 ((-2) + (wrap64 (365 * (wrap64 (a0 - 1)))))) + t320)) + (wrap64 (Int.tdiv (wrap64 ((wrap64 (367 * a1)) - 362)) 12)))) + a2)) (t321 == 0))) else (trystref01_julian.j0 k a1 (wrap64 ((wrap64 ((wrap64 ((wrap64 ((-2) + (wrap64 (365 * (wrap64 (a0 - 1)))))) + t320)) + (wrap64 (Int.tdiv (wrap64 ((wrap64 (367 * a1)) - 362)) 12)))) + a2)) false))
set_option maxHeartbeats 8000000 in
set_option maxRecDepth 100000 in
theorem trystref01_julian.calls (k : Nat) (a0 : Int) (a1 : Int) (a2 : Int) (r : Int) (w : World) (h : trystref01_julian.f k a0 a1 a2 = some r) :
  Calls Tryz.prog 77 #[.int .i64 a0, .int .i64 a1, .int .i64 a2] w fun e w' => e = .returned (.int .i64 r) ∧ Drawn0 w w' := by
 have H : ((trystref01_Floor.f (wrap64 (a0 - 1)) 4).bind fun t320 => (if a1 > 2 then ((trystref01_Mod.f a0 4).bind fun t321 => (trystref01_julian.j0 k a1 (wrap64 ((wrap64 ((wrap64 ((wrap64 ((-2) + (wrap64 (365 * (wrap64 (a0 - 1)))))) + t320)) + (wrap64 (Int.tdiv (wrap64 ((wrap64 (367 * a1)) - 362)) 12)))) + a2)) (t321 == 0))) else (trystref01_julian.j0 k a1 (wrap64 ((wrap64 ((wrap64 ((wrap64 ((-2) + (wrap64 (365 * (wrap64 (a0 - 1)))))) + t320)) + (wrap64 (Int.tdiv (wrap64 ((wrap64 (367 * a1)) - 362)) 12)))) + a2)) false))) = some r := h
 clear h
 replace H := Option.bind_eq_some_iff.mp H
 obtain ⟨t320, A40, H⟩ := H
 replace H : (if a1 > 2 then ((trystref01_Mod.f a0 4).bind fun t321 => (trystref01_julian.j0 k a1 (wrap64 ((wrap64 ((wrap64 ((wrap64 ((-2) + (wrap64 (365 * (wrap64 (a0 - 1)))))) + t320)) + (wrap64 (Int.tdiv (wrap64 ((wrap64 (367 * a1)) - 362)) 12)))) + a2)) (t321 == 0))) else (trystref01_julian.j0 k a1 (wrap64 ((wrap64 ((wrap64 ((wrap64 ((-2) + (wrap64 (365 * (wrap64 (a0 - 1)))))) + t320)) + (wrap64 (Int.tdiv (wrap64 ((wrap64 (367 * a1)) - 362)) 12)))) + a2)) false)) = some r := H
 have A4 := Aside0.mk A40
 clear A40
 have HC5 := Aside0.mk H
 clear H
 go_enter Tryz.func77, Tryz.ntmps77
 go_upto_region 2 with (first | ((with_reducible refine gate_callee (f := 33) rfl ?_); refine gm_ (some 14) Tryz.func33 #[.int .i64 (wrap64 (a0 - 1)), .int .i64 4] ?_; (with_reducible refine (trystref01_Floor.calls (wrap64 (a0 - 1)) 4 t320 _ A4.out).mono ?_); rintro e w' ⟨rfl, ⟨nd, rfl⟩⟩; refine ⟨_, rfl, ?_⟩))
 (try simp only [Act.put, List.setIfInBounds_toArray, List.set_cons_zero, List.set_cons_succ])
 go_cut [29] (fun v29 wc => ∃ (kq : Nat) (x29_4 : Bool), v29 = .bool x29_4 ∧ Aside0 (trystref01_julian.j0 kq a1 (wrap64 ((wrap64 ((wrap64 ((wrap64 ((-2) + (wrap64 (365 * (wrap64 (a0 - 1)))))) + t320)) + (wrap64 (Int.tdiv (wrap64 ((wrap64 (367 * a1)) - 362)) 12)))) + a2)) x29_4 = some r) ∧ Aside0 (kq ≤ k) ∧ Drawn0 w wc)
 case first =>
  have H := HC5.out
  clear HC5
  by_cases c6 : a1 > 2
  ·rw [if_pos c6] at H
   have c6b0 : decide (2 < a1) = true := decide_eq_true c6
   clear c6
   (first | rw [c6b0] | (simp only [i64_w, i32_w]; rw [c6b0]) | skip)
   replace H := Option.bind_eq_some_iff.mp H
   obtain ⟨t321, A70, H⟩ := H
   replace H : (trystref01_julian.j0 k a1 (wrap64 ((wrap64 ((wrap64 ((wrap64 ((-2) + (wrap64 (365 * (wrap64 (a0 - 1)))))) + t320)) + (wrap64 (Int.tdiv (wrap64 ((wrap64 (367 * a1)) - 362)) 12)))) + a2)) (t321 == 0)) = some r := H
   have A7 := Aside0.mk A70
   clear A70
   have H' := Aside0.mk H
   clear H
   go_wp2_with (first | (go_at_call 110; (with_reducible refine (trystref01_Mod.calls a0 4 t321 _ A7.out).mono ?_); rintro e w' ⟨rfl, ⟨nd, rfl⟩⟩))
   go_meet
   case rel => exact ⟨_, ((t321 == 0)), (by first | rfl | (simp; done) | (simp [*]; done)), H', ⟨by first | omega | exact Nat.le_refl _⟩, by repeat (first | exact Drawn0.refl _ | apply Drawn0.step)⟩
  ·rw [if_neg c6] at H
   have c6b0 : decide (2 < a1) = false := decide_eq_false c6
   clear c6
   (first | rw [c6b0] | (simp only [i64_w, i32_w]; rw [c6b0]) | skip)
   have H' := Aside0.mk H
   clear H
   go_wp2
   go_meet
   case rel => exact ⟨_, (false), (by first | rfl | (simp; done) | (simp [*]; done)), H', ⟨by first | omega | exact Nat.le_refl _⟩, by repeat (first | exact Drawn0.refl _ | apply Drawn0.step)⟩
 case rest =>
  clear HC5
  try clear p2
  try clear c3
  try clear c6
  try clear c6b0
  try clear p6
  try clear c7
  obtain ⟨kq, x29_4, rfl, HA, HJ4, ⟨mc4, rfl⟩⟩ := hcut
  cases kq with
  | zero => exact absurd HA.out (by simp [trystref01_julian.j0])
  | succ kj4 =>
   have H := HA.out
   clear HA
   simp only [trystref01_julian.j0] at H
   by_cases c8 : x29_4 = true
   ·subst c8
    have H1 : (some (wrap64 ((wrap64 ((wrap64 ((wrap64 ((wrap64 ((-2) + (wrap64 (365 * (wrap64 (a0 - 1)))))) + t320)) + (wrap64 (Int.tdiv (wrap64 ((wrap64 (367 * a1)) - 362)) 12)))) + a2)) - 1))) = some r := by rw [if_pos rfl] at H; exact H
    clear H
    have H := H1
    clear H1
    obtain rfl := Option.some.inj H
    go_wp2
    go_ret
    exact ⟨by first | rfl | simp | simp [*] | simp [bne_nil_], by repeat (first | exact Drawn0.refl _ | apply Drawn0.step)⟩
   ·replace c8 := Bool.eq_false_iff.mpr c8
    subst c8
    have H1 : (if a1 > 2 then (some (wrap64 ((wrap64 ((wrap64 ((wrap64 ((wrap64 ((-2) + (wrap64 (365 * (wrap64 (a0 - 1)))))) + t320)) + (wrap64 (Int.tdiv (wrap64 ((wrap64 (367 * a1)) - 362)) 12)))) + a2)) - 2))) else (some (wrap64 ((wrap64 ((wrap64 ((wrap64 ((-2) + (wrap64 (365 * (wrap64 (a0 - 1)))))) + t320)) + (wrap64 (Int.tdiv (wrap64 ((wrap64 (367 * a1)) - 362)) 12)))) + a2)))) = some r := by rw [if_neg (show ¬ (false = true) by decide)] at H; exact H
    clear H
    have H := H1
    clear H1
    by_cases c9 : a1 > 2
    ·rw [if_pos c9] at H
     have c9b0 : decide (2 < a1) = true := decide_eq_true c9
     clear c9
     obtain rfl := Option.some.inj H
     go_wp2
     go_ret
     exact ⟨by first | rfl | simp | simp [*] | simp [bne_nil_], by repeat (first | exact Drawn0.refl _ | apply Drawn0.step)⟩
    ·rw [if_neg c9] at H
     have c9b0 : decide (2 < a1) = false := decide_eq_false c9
     clear c9
     obtain rfl := Option.some.inj H
     go_wp2
     go_ret
     exact ⟨by first | rfl | simp | simp [*] | simp [bne_nil_], by repeat (first | exact Drawn0.refl _ | apply Drawn0.step)⟩

/-! ### trystref01_islamic: function 78 -/
def trystref01_islamic.f (a0 : Int) (a1 : Int) (a2 : Int) : Option (Int) := (trystref01_Floor.f (wrap64 ((wrap64 (6 * a1)) - 1)) 11).bind fun t322 => ((trystref01_Floor.f (wrap64 (3 + (wrap64 (11 * a0)))) 30).bind fun t323 => (some (wrap64 ((wrap64 ((wrap64 ((wrap64 ((wrap64 (a2 + (wrap64 (29 * (wrap64 (a1 - 1)))))) + t322)) + (wrap64 (354 * (wrap64 (a0 - 1)))))) + t323)) + 227014))))
set_option maxHeartbeats 8000000 in
set_option maxRecDepth 100000 in
theorem trystref01_islamic.calls (a0 : Int) (a1 : Int) (a2 : Int) (r : Int) (w : World) (h : trystref01_islamic.f a0 a1 a2 = some r) :
  Calls Tryz.prog 78 #[.int .i64 a0, .int .i64 a1, .int .i64 a2] w fun e w' => e = .returned (.int .i64 r) ∧ Drawn0 w w' := by
 have H : ((trystref01_Floor.f (wrap64 ((wrap64 (6 * a1)) - 1)) 11).bind fun t322 => ((trystref01_Floor.f (wrap64 (3 + (wrap64 (11 * a0)))) 30).bind fun t323 => (some (wrap64 ((wrap64 ((wrap64 ((wrap64 ((wrap64 (a2 + (wrap64 (29 * (wrap64 (a1 - 1)))))) + t322)) + (wrap64 (354 * (wrap64 (a0 - 1)))))) + t323)) + 227014))))) = some r := h
 clear h
 replace H := Option.bind_eq_some_iff.mp H
 obtain ⟨t322, A40, H⟩ := H
 replace H : ((trystref01_Floor.f (wrap64 (3 + (wrap64 (11 * a0)))) 30).bind fun t323 => (some (wrap64 ((wrap64 ((wrap64 ((wrap64 ((wrap64 (a2 + (wrap64 (29 * (wrap64 (a1 - 1)))))) + t322)) + (wrap64 (354 * (wrap64 (a0 - 1)))))) + t323)) + 227014)))) = some r := H
 have A4 := Aside0.mk A40
 clear A40
 replace H := Option.bind_eq_some_iff.mp H
 obtain ⟨t323, A50, H⟩ := H
 replace H : (some (wrap64 ((wrap64 ((wrap64 ((wrap64 ((wrap64 (a2 + (wrap64 (29 * (wrap64 (a1 - 1)))))) + t322)) + (wrap64 (354 * (wrap64 (a0 - 1)))))) + t323)) + 227014))) = some r := H
 have A5 := Aside0.mk A50
 clear A50
 obtain rfl := Option.some.inj H
 go_enter Tryz.func78, Tryz.ntmps78
 go_wp2_with (first | ((with_reducible refine gate_callee (f := 33) rfl ?_); refine gm_ (some 15) Tryz.func33 #[.int .i64 (wrap64 ((wrap64 (6 * a1)) - 1)), .int .i64 11] ?_; (with_reducible refine (trystref01_Floor.calls (wrap64 ((wrap64 (6 * a1)) - 1)) 11 t322 _ A4.out).mono ?_); rintro e w' ⟨rfl, ⟨nd, rfl⟩⟩; refine ⟨_, rfl, ?_⟩) | ((with_reducible refine gate_callee (f := 33) rfl ?_); refine gm_ (some 24) Tryz.func33 #[.int .i64 (wrap64 (3 + (wrap64 (11 * a0)))), .int .i64 30] ?_; (with_reducible refine (trystref01_Floor.calls (wrap64 (3 + (wrap64 (11 * a0)))) 30 t323 _ A5.out).mono ?_); rintro e w' ⟨rfl, ⟨nd, rfl⟩⟩; refine ⟨_, rfl, ?_⟩))
 go_ret
 exact ⟨by first | rfl | simp | simp [*] | simp [bne_nil_], by repeat (first | exact Drawn0.refl _ | apply Drawn0.step)⟩

/-! ### trystref01_persian: function 79 -/
def trystref01_persian.j0 : Nat → Int → Int → Int → Option (Int)
 | 0, _, _, _ => none
 | k + 1, x1, x2, x7 => (trystref01_Mod.f x7 2820).bind fun t324 => ((trystref01_Floor.f x7 2820).bind fun t325 => ((trystref01_Floor.f (wrap64 ((wrap64 (31 * (wrap64 (t324 + 474)))) - 5)) 128).bind fun t326 => (if x1 ≤ 7 then (some (wrap64 ((wrap64 ((wrap64 ((wrap64 ((wrap64 (226895 + (wrap64 (1029983 * t325)))) + (wrap64 (365 * (wrap64 ((wrap64 (t324 + 474)) - 1)))))) + t326)) + x2)) + (wrap64 (31 * (wrap64 (x1 - 1))))))) else (some (wrap64 ((wrap64 ((wrap64 ((wrap64 ((wrap64 ((wrap64 (226895 + (wrap64 (1029983 * t325)))) + (wrap64 (365 * (wrap64 ((wrap64 (t324 + 474)) - 1)))))) + t326)) + x2)) + (wrap64 (30 * (wrap64 (x1 - 1)))))) + 6))))))
def trystref01_persian.f (k : Nat) (a0 : Int) (a1 : Int) (a2 : Int) : Option (Int) := if a0 < 0 then (trystref01_persian.j0 k a1 a2 (wrap64 (a0 - 473))) else (trystref01_persian.j0 k a1 a2 (wrap64 (a0 - 474)))
set_option maxHeartbeats 8000000 in
set_option maxRecDepth 100000 in
theorem trystref01_persian.calls (k : Nat) (a0 : Int) (a1 : Int) (a2 : Int) (r : Int) (w : World) (h : trystref01_persian.f k a0 a1 a2 = some r) :
  Calls Tryz.prog 79 #[.int .i64 a0, .int .i64 a1, .int .i64 a2] w fun e w' => e = .returned (.int .i64 r) ∧ Drawn0 w w' := by
 have H : (if a0 < 0 then (trystref01_persian.j0 k a1 a2 (wrap64 (a0 - 473))) else (trystref01_persian.j0 k a1 a2 (wrap64 (a0 - 474)))) = some r := h
 clear h
 have HC4 := Aside0.mk H
 clear H
 go_enter Tryz.func79, Tryz.ntmps79
 go_upto_if 13 with (fail)
 go_cut [7] (fun v7 wc => ∃ (kq : Nat) (x7_3 : Int), v7 = .int .i64 x7_3 ∧ Aside0 (trystref01_persian.j0 kq a1 a2 x7_3 = some r) ∧ Aside0 (kq ≤ k) ∧ Drawn0 w wc)
 case first =>
  have H := HC4.out
  clear HC4
  by_cases c5 : a0 < 0
  ·rw [if_pos c5] at H
   have c5b0 : decide (a0 < 0) = true := decide_eq_true c5
   clear c5
   (first | rw [c5b0] | (simp only [i64_w, i32_w]; rw [c5b0]) | skip)
   have H' := Aside0.mk H
   clear H
   go_wp2
   go_meet
   case rel => exact ⟨_, (wrap64 (a0 - 473)), (by first | rfl | (simp; done) | (simp [*]; done)), H', ⟨by first | omega | exact Nat.le_refl _⟩, by repeat (first | exact Drawn0.refl _ | apply Drawn0.step)⟩
  ·rw [if_neg c5] at H
   have c5b0 : decide (a0 < 0) = false := decide_eq_false c5
   clear c5
   (first | rw [c5b0] | (simp only [i64_w, i32_w]; rw [c5b0]) | skip)
   have H' := Aside0.mk H
   clear H
   go_wp2
   go_meet
   case rel => exact ⟨_, (wrap64 (a0 - 474)), (by first | rfl | (simp; done) | (simp [*]; done)), H', ⟨by first | omega | exact Nat.le_refl _⟩, by repeat (first | exact Drawn0.refl _ | apply Drawn0.step)⟩
 case rest =>
  clear HC4
  try clear p2
  try clear c5
  try clear c5b0
  obtain ⟨kq, x7_3, rfl, HA, HJ3, ⟨mc3, rfl⟩⟩ := hcut
  cases kq with
  | zero => exact absurd HA.out (by simp [trystref01_persian.j0])
  | succ kj3 =>
   have H := HA.out
   clear HA
   simp only [trystref01_persian.j0] at H
   replace H := Option.bind_eq_some_iff.mp H
   obtain ⟨t324, A60, H⟩ := H
   replace H : ((trystref01_Floor.f x7_3 2820).bind fun t325 => ((trystref01_Floor.f (wrap64 ((wrap64 (31 * (wrap64 (t324 + 474)))) - 5)) 128).bind fun t326 => (if a1 ≤ 7 then (some (wrap64 ((wrap64 ((wrap64 ((wrap64 ((wrap64 (226895 + (wrap64 (1029983 * t325)))) + (wrap64 (365 * (wrap64 ((wrap64 (t324 + 474)) - 1)))))) + t326)) + a2)) + (wrap64 (31 * (wrap64 (a1 - 1))))))) else (some (wrap64 ((wrap64 ((wrap64 ((wrap64 ((wrap64 ((wrap64 (226895 + (wrap64 (1029983 * t325)))) + (wrap64 (365 * (wrap64 ((wrap64 (t324 + 474)) - 1)))))) + t326)) + a2)) + (wrap64 (30 * (wrap64 (a1 - 1)))))) + 6)))))) = some r := H
   have A6 := Aside0.mk A60
   clear A60
   replace H := Option.bind_eq_some_iff.mp H
   obtain ⟨t325, A70, H⟩ := H
   replace H : ((trystref01_Floor.f (wrap64 ((wrap64 (31 * (wrap64 (t324 + 474)))) - 5)) 128).bind fun t326 => (if a1 ≤ 7 then (some (wrap64 ((wrap64 ((wrap64 ((wrap64 ((wrap64 (226895 + (wrap64 (1029983 * t325)))) + (wrap64 (365 * (wrap64 ((wrap64 (t324 + 474)) - 1)))))) + t326)) + a2)) + (wrap64 (31 * (wrap64 (a1 - 1))))))) else (some (wrap64 ((wrap64 ((wrap64 ((wrap64 ((wrap64 ((wrap64 (226895 + (wrap64 (1029983 * t325)))) + (wrap64 (365 * (wrap64 ((wrap64 (t324 + 474)) - 1)))))) + t326)) + a2)) + (wrap64 (30 * (wrap64 (a1 - 1)))))) + 6))))) = some r := H
   have A7 := Aside0.mk A70
   clear A70
   replace H := Option.bind_eq_some_iff.mp H
   obtain ⟨t326, A80, H⟩ := H
   replace H : (if a1 ≤ 7 then (some (wrap64 ((wrap64 ((wrap64 ((wrap64 ((wrap64 (226895 + (wrap64 (1029983 * t325)))) + (wrap64 (365 * (wrap64 ((wrap64 (t324 + 474)) - 1)))))) + t326)) + a2)) + (wrap64 (31 * (wrap64 (a1 - 1))))))) else (some (wrap64 ((wrap64 ((wrap64 ((wrap64 ((wrap64 ((wrap64 (226895 + (wrap64 (1029983 * t325)))) + (wrap64 (365 * (wrap64 ((wrap64 (t324 + 474)) - 1)))))) + t326)) + a2)) + (wrap64 (30 * (wrap64 (a1 - 1)))))) + 6)))) = some r := H
   have A8 := Aside0.mk A80
   clear A80
   by_cases c9 : a1 ≤ 7
   ·rw [if_pos c9] at H
    have c9b0 : decide (a1 ≤ 7) = true := decide_eq_true c9
    clear c9
    obtain rfl := Option.some.inj H
    go_wp2_with (first | ((with_reducible refine gate_callee (f := 110) rfl ?_); refine gm_ (some 17) Tryz.func110 #[.int .i64 x7_3, .int .i64 2820] ?_; (with_reducible refine (trystref01_Mod.calls x7_3 2820 t324 _ A6.out).mono ?_); rintro e w' ⟨rfl, ⟨nd, rfl⟩⟩; refine ⟨_, rfl, ?_⟩) | ((with_reducible refine gate_callee (f := 33) rfl ?_); refine gm_ (some 20) Tryz.func33 #[.int .i64 x7_3, .int .i64 2820] ?_; (with_reducible refine (trystref01_Floor.calls x7_3 2820 t325 _ A7.out).mono ?_); rintro e w' ⟨rfl, ⟨nd, rfl⟩⟩; refine ⟨_, rfl, ?_⟩) | ((with_reducible refine gate_callee (f := 33) rfl ?_); refine gm_ (some 30) Tryz.func33 #[.int .i64 (wrap64 ((wrap64 (31 * (wrap64 (t324 + 474)))) - 5)), .int .i64 128] ?_; (with_reducible refine (trystref01_Floor.calls (wrap64 ((wrap64 (31 * (wrap64 (t324 + 474)))) - 5)) 128 t326 _ A8.out).mono ?_); rintro e w' ⟨rfl, ⟨nd, rfl⟩⟩; refine ⟨_, rfl, ?_⟩))
    go_ret
    exact ⟨by first | rfl | simp | simp [*] | simp [bne_nil_], by repeat (first | exact Drawn0.refl _ | apply Drawn0.step)⟩
   ·rw [if_neg c9] at H
    have c9b0 : decide (a1 ≤ 7) = false := decide_eq_false c9
    clear c9
    obtain rfl := Option.some.inj H
    go_wp2_with (first | ((with_reducible refine gate_callee (f := 110) rfl ?_); refine gm_ (some 17) Tryz.func110 #[.int .i64 x7_3, .int .i64 2820] ?_; (with_reducible refine (trystref01_Mod.calls x7_3 2820 t324 _ A6.out).mono ?_); rintro e w' ⟨rfl, ⟨nd, rfl⟩⟩; refine ⟨_, rfl, ?_⟩) | ((with_reducible refine gate_callee (f := 33) rfl ?_); refine gm_ (some 20) Tryz.func33 #[.int .i64 x7_3, .int .i64 2820] ?_; (with_reducible refine (trystref01_Floor.calls x7_3 2820 t325 _ A7.out).mono ?_); rintro e w' ⟨rfl, ⟨nd, rfl⟩⟩; refine ⟨_, rfl, ?_⟩) | ((with_reducible refine gate_callee (f := 33) rfl ?_); refine gm_ (some 30) Tryz.func33 #[.int .i64 (wrap64 ((wrap64 (31 * (wrap64 (t324 + 474)))) - 5)), .int .i64 128] ?_; (with_reducible refine (trystref01_Floor.calls (wrap64 ((wrap64 (31 * (wrap64 (t324 + 474)))) - 5)) 128 t326 _ A8.out).mono ?_); rintro e w' ⟨rfl, ⟨nd, rfl⟩⟩; refine ⟨_, rfl, ?_⟩))
    go_ret
    exact ⟨by first | rfl | simp | simp [*] | simp [bne_nil_], by repeat (first | exact Drawn0.refl _ | apply Drawn0.step)⟩

/-! ### trystref01_coptic: function 80 -/
def trystref01_coptic.f (a0 : Int) (a1 : Int) (a2 : Int) : Option (Int) := (trystref01_Floor.f a0 4).bind fun t327 => (some (wrap64 ((wrap64 ((wrap64 ((wrap64 (103604 + (wrap64 (365 * (wrap64 (a0 - 1)))))) + t327)) + (wrap64 (30 * (wrap64 (a1 - 1)))))) + a2)))
set_option maxHeartbeats 8000000 in
set_option maxRecDepth 100000 in
theorem trystref01_coptic.calls (a0 : Int) (a1 : Int) (a2 : Int) (r : Int) (w : World) (h : trystref01_coptic.f a0 a1 a2 = some r) :
  Calls Tryz.prog 80 #[.int .i64 a0, .int .i64 a1, .int .i64 a2] w fun e w' => e = .returned (.int .i64 r) ∧ Drawn0 w w' := by
 have H : ((trystref01_Floor.f a0 4).bind fun t327 => (some (wrap64 ((wrap64 ((wrap64 ((wrap64 (103604 + (wrap64 (365 * (wrap64 (a0 - 1)))))) + t327)) + (wrap64 (30 * (wrap64 (a1 - 1)))))) + a2)))) = some r := h
 clear h
 replace H := Option.bind_eq_some_iff.mp H
 obtain ⟨t327, A40, H⟩ := H
 replace H : (some (wrap64 ((wrap64 ((wrap64 ((wrap64 (103604 + (wrap64 (365 * (wrap64 (a0 - 1)))))) + t327)) + (wrap64 (30 * (wrap64 (a1 - 1)))))) + a2))) = some r := H
 have A4 := Aside0.mk A40
 clear A40
 obtain rfl := Option.some.inj H
 go_enter Tryz.func80, Tryz.ntmps80
 go_wp2_with (first | ((with_reducible refine gate_callee (f := 33) rfl ?_); refine gm_ (some 12) Tryz.func33 #[.int .i64 a0, .int .i64 4] ?_; (with_reducible refine (trystref01_Floor.calls a0 4 t327 _ A4.out).mono ?_); rintro e w' ⟨rfl, ⟨nd, rfl⟩⟩; refine ⟨_, rfl, ?_⟩))
 go_ret
 exact ⟨by first | rfl | simp | simp [*] | simp [bne_nil_], by repeat (first | exact Drawn0.refl _ | apply Drawn0.step)⟩

/-! ### trystref01_Fixed: function 37 -/
def trystref01_Fixed.f (k : Nat) (a0 : Int) (a1 : Int) (a2 : Int) (a3 : Int) : Option (Int) := if a0 = 0 then ((trystref01_gregorian.f k a1 a2 a3).bind fun t328 => (some t328)) else (if a0 = 1 then ((trystref01_julian.f k a1 a2 a3).bind fun t329 => (some t329)) else (if a0 = 2 then ((trystref01_Week1.f k a1 1).bind fun t330 => (some (wrap64 ((wrap64 ((wrap64 (t330 + (wrap64 (7 * (wrap64 (a2 - 1)))))) + a3)) - 1)))) else (if a0 = 3 then ((trystref01_hebrew.f k a1 a2 a3).bind fun t331 => (some t331)) else (if a0 = 4 then ((trystref01_islamic.f a1 a2 a3).bind fun t332 => (some t332)) else (if a0 = 5 then ((trystref01_persian.f k a1 a2 a3).bind fun t333 => (some t333)) else ((trystref01_coptic.f a1 a2 a3).bind fun t334 => (some t334)))))))
set_option maxHeartbeats 8000000 in
set_option maxRecDepth 100000 in
theorem trystref01_Fixed.calls (k : Nat) (a0 : Int) (a1 : Int) (a2 : Int) (a3 : Int) (r : Int) (w : World) (h : trystref01_Fixed.f k a0 a1 a2 a3 = some r) :
  Calls Tryz.prog 37 #[.int .i64 a0, .int .i64 a1, .int .i64 a2, .int .i64 a3] w fun e w' => e = .returned (.int .i64 r) ∧ Drawn0 w w' := by
 have H : (if a0 = 0 then ((trystref01_gregorian.f k a1 a2 a3).bind fun t328 => (some t328)) else (if a0 = 1 then ((trystref01_julian.f k a1 a2 a3).bind fun t329 => (some t329)) else (if a0 = 2 then ((trystref01_Week1.f k a1 1).bind fun t330 => (some (wrap64 ((wrap64 ((wrap64 (t330 + (wrap64 (7 * (wrap64 (a2 - 1)))))) + a3)) - 1)))) else (if a0 = 3 then ((trystref01_hebrew.f k a1 a2 a3).bind fun t331 => (some t331)) else (if a0 = 4 then ((trystref01_islamic.f a1 a2 a3).bind fun t332 => (some t332)) else (if a0 = 5 then ((trystref01_persian.f k a1 a2 a3).bind fun t333 => (some t333)) else ((trystref01_coptic.f a1 a2 a3).bind fun t334 => (some t334)))))))) = some r := h
 clear h
 by_cases c5 : a0 = 0
 ·rw [if_pos c5] at H
  have c5b0 : (a0 == 0) = true := beq_iff_eq.mpr c5
  have c5b1 : (a0 != 0) = false := bne_eq_false_iff_eq.mpr c5
  clear c5
  replace H := Option.bind_eq_some_iff.mp H
  obtain ⟨t328, A60, H⟩ := H
  replace H : (some t328) = some r := H
  have A6 := Aside0.mk A60
  clear A60
  obtain rfl := Option.some.inj H
  go_enter Tryz.func37, Tryz.ntmps37
  go_wp2_with (first | ((with_reducible refine gate_callee (f := 76) rfl ?_); refine gm_ (some 15) Tryz.func76 #[.int .i64 a1, .int .i64 a2, .int .i64 a3] ?_; (with_reducible refine (trystref01_gregorian.calls k a1 a2 a3 t328 _ A6.out).mono ?_); rintro e w' ⟨rfl, ⟨nd, rfl⟩⟩; refine ⟨_, rfl, ?_⟩))
  go_ret
  exact ⟨by first | rfl | simp | simp [*] | simp [bne_nil_], by repeat (first | exact Drawn0.refl _ | apply Drawn0.step)⟩
 ·rw [if_neg c5] at H
  have c5b0 : (a0 == 0) = false := beq_eq_false_iff_ne.mpr c5
  have c5b1 : (a0 != 0) = true := bne_iff_ne.mpr c5
  by_cases c7 : a0 = 1
  ·rw [if_pos c7] at H
   have c7b0 : (a0 == 1) = true := beq_iff_eq.mpr c7
   have c7b1 : (a0 != 1) = false := bne_eq_false_iff_eq.mpr c7
   clear c7
   replace H := Option.bind_eq_some_iff.mp H
   obtain ⟨t329, A80, H⟩ := H
   replace H : (some t329) = some r := H
   have A8 := Aside0.mk A80
   clear A80
   obtain rfl := Option.some.inj H
   go_enter Tryz.func37, Tryz.ntmps37
   go_wp2_with (first | ((with_reducible refine gate_callee (f := 77) rfl ?_); refine gm_ (some 21) Tryz.func77 #[.int .i64 a1, .int .i64 a2, .int .i64 a3] ?_; (with_reducible refine (trystref01_julian.calls k a1 a2 a3 t329 _ A8.out).mono ?_); rintro e w' ⟨rfl, ⟨nd, rfl⟩⟩; refine ⟨_, rfl, ?_⟩))
   go_ret
   exact ⟨by first | rfl | simp | simp [*] | simp [bne_nil_], by repeat (first | exact Drawn0.refl _ | apply Drawn0.step)⟩
  ·rw [if_neg c7] at H
   have c7b0 : (a0 == 1) = false := beq_eq_false_iff_ne.mpr c7
   have c7b1 : (a0 != 1) = true := bne_iff_ne.mpr c7
   by_cases c9 : a0 = 2
   ·rw [if_pos c9] at H
    have c9b0 : (a0 == 2) = true := beq_iff_eq.mpr c9
    have c9b1 : (a0 != 2) = false := bne_eq_false_iff_eq.mpr c9
    clear c9
    replace H := Option.bind_eq_some_iff.mp H
    obtain ⟨t330, A100, H⟩ := H
    replace H : (some (wrap64 ((wrap64 ((wrap64 (t330 + (wrap64 (7 * (wrap64 (a2 - 1)))))) + a3)) - 1))) = some r := H
    have A10 := Aside0.mk A100
    clear A100
    obtain rfl := Option.some.inj H
    go_enter Tryz.func37, Tryz.ntmps37
    go_wp2_with (first | ((with_reducible refine gate_callee (f := 74) rfl ?_); refine gm_ (some 25) Tryz.func74 #[.int .i64 a1, .int .i64 1] ?_; (with_reducible refine (trystref01_Week1.calls k a1 1 t330 _ A10.out).mono ?_); rintro e w' ⟨rfl, ⟨nd, rfl⟩⟩; refine ⟨_, rfl, ?_⟩))
    go_ret
    exact ⟨by first | rfl | simp | simp [*] | simp [bne_nil_], by repeat (first | exact Drawn0.refl _ | apply Drawn0.step)⟩
   ·rw [if_neg c9] at H
    have c9b0 : (a0 == 2) = false := beq_eq_false_iff_ne.mpr c9
    have c9b1 : (a0 != 2) = true := bne_iff_ne.mpr c9
    by_cases c11 : a0 = 3
    ·rw [if_pos c11] at H
     have c11b0 : (a0 == 3) = true := beq_iff_eq.mpr c11
     have c11b1 : (a0 != 3) = false := bne_eq_false_iff_eq.mpr c11
     clear c11
     replace H := Option.bind_eq_some_iff.mp H
     obtain ⟨t331, A120, H⟩ := H
     replace H : (some t331) = some r := H
     have A12 := Aside0.mk A120
     clear A120
     obtain rfl := Option.some.inj H
     go_enter Tryz.func37, Tryz.ntmps37
     go_wp2_with (first | ((with_reducible refine gate_callee (f := 72) rfl ?_); refine gm_ (some 38) Tryz.func72 #[.int .i64 a1, .int .i64 a2, .int .i64 a3] ?_; (with_reducible refine (trystref01_hebrew.calls k a1 a2 a3 t331 _ A12.out).mono ?_); rintro e w' ⟨rfl, ⟨nd, rfl⟩⟩; refine ⟨_, rfl, ?_⟩))
     go_ret
     exact ⟨by first | rfl | simp | simp [*] | simp [bne_nil_], by repeat (first | exact Drawn0.refl _ | apply Drawn0.step)⟩
    ·rw [if_neg c11] at H
     have c11b0 : (a0 == 3) = false := beq_eq_false_iff_ne.mpr c11
     have c11b1 : (a0 != 3) = true := bne_iff_ne.mpr c11
     by_cases c13 : a0 = 4
     ·rw [if_pos c13] at H
      have c13b0 : (a0 == 4) = true := beq_iff_eq.mpr c13
      have c13b1 : (a0 != 4) = false := bne_eq_false_iff_eq.mpr c13
      clear c13
      replace H := Option.bind_eq_some_iff.mp H
      obtain ⟨t332, A140, H⟩ := H
      replace H : (some t332) = some r := H
      have A14 := Aside0.mk A140
      clear A140
      obtain rfl := Option.some.inj H
      go_enter Tryz.func37, Tryz.ntmps37
      go_wp2_with (first | ((with_reducible refine gate_callee (f := 78) rfl ?_); refine gm_ (some 44) Tryz.func78 #[.int .i64 a1, .int .i64 a2, .int .i64 a3] ?_; (with_reducible refine (trystref01_islamic.calls a1 a2 a3 t332 _ A14.out).mono ?_); rintro e w' ⟨rfl, ⟨nd, rfl⟩⟩; refine ⟨_, rfl, ?_⟩))
      go_ret
      exact ⟨by first | rfl | simp | simp [*] | simp [bne_nil_], by repeat (first | exact Drawn0.refl _ | apply Drawn0.step)⟩
     ·rw [if_neg c13] at H
      have c13b0 : (a0 == 4) = false := beq_eq_false_iff_ne.mpr c13
      have c13b1 : (a0 != 4) = true := bne_iff_ne.mpr c13
      by_cases c15 : a0 = 5
      ·rw [if_pos c15] at H
       have c15b0 : (a0 == 5) = true := beq_iff_eq.mpr c15
       have c15b1 : (a0 != 5) = false := bne_eq_false_iff_eq.mpr c15
       clear c15
       replace H := Option.bind_eq_some_iff.mp H
       obtain ⟨t333, A160, H⟩ := H
       replace H : (some t333) = some r := H
       have A16 := Aside0.mk A160
       clear A160
       obtain rfl := Option.some.inj H
       go_enter Tryz.func37, Tryz.ntmps37
       go_wp2_with (first | ((with_reducible refine gate_callee (f := 79) rfl ?_); refine gm_ (some 50) Tryz.func79 #[.int .i64 a1, .int .i64 a2, .int .i64 a3] ?_; (with_reducible refine (trystref01_persian.calls k a1 a2 a3 t333 _ A16.out).mono ?_); rintro e w' ⟨rfl, ⟨nd, rfl⟩⟩; refine ⟨_, rfl, ?_⟩))
       go_ret
       exact ⟨by first | rfl | simp | simp [*] | simp [bne_nil_], by repeat (first | exact Drawn0.refl _ | apply Drawn0.step)⟩
      ·rw [if_neg c15] at H
       have c15b0 : (a0 == 5) = false := beq_eq_false_iff_ne.mpr c15
       have c15b1 : (a0 != 5) = true := bne_iff_ne.mpr c15
       replace H := Option.bind_eq_some_iff.mp H
       obtain ⟨t334, A170, H⟩ := H
       replace H : (some t334) = some r := H
       have A17 := Aside0.mk A170
       clear A170
       obtain rfl := Option.some.inj H
       go_enter Tryz.func37, Tryz.ntmps37
       go_wp2_with (first | ((with_reducible refine gate_callee (f := 80) rfl ?_); refine gm_ (some 54) Tryz.func80 #[.int .i64 a1, .int .i64 a2, .int .i64 a3] ?_; (with_reducible refine (trystref01_coptic.calls a1 a2 a3 t334 _ A17.out).mono ?_); rintro e w' ⟨rfl, ⟨nd, rfl⟩⟩; refine ⟨_, rfl, ?_⟩))
       go_ret
       exact ⟨by first | rfl | simp | simp [*] | simp [bne_nil_], by repeat (first | exact Drawn0.refl _ | apply Drawn0.step)⟩

/-! ### trystref01_begins: function 34 -/
def trystref01_begins.f (k : Nat) (a0 : Int) (a1 : Int) : Option (Int) := if a0 = 3 then ((trystref01_newYear.f a1).bind fun t335 => (some t335)) else ((trystref01_Fixed.f k a0 a1 1 1).bind fun t336 => (some t336))
set_option maxHeartbeats 8000000 in
set_option maxRecDepth 100000 in
theorem trystref01_begins.calls (k : Nat) (a0 : Int) (a1 : Int) (r : Int) (w : World) (h : trystref01_begins.f k a0 a1 = some r) :
  Calls Tryz.prog 34 #[.int .i64 a0, .int .i64 a1] w fun e w' => e = .returned (.int .i64 r) ∧ Drawn0 w w' := by
 have H : (if a0 = 3 then ((trystref01_newYear.f a1).bind fun t335 => (some t335)) else ((trystref01_Fixed.f k a0 a1 1 1).bind fun t336 => (some t336))) = some r := h
 clear h
 by_cases c3 : a0 = 3
 ·rw [if_pos c3] at H
  have c3b0 : (a0 == 3) = true := beq_iff_eq.mpr c3
  have c3b1 : (a0 != 3) = false := bne_eq_false_iff_eq.mpr c3
  clear c3
  replace H := Option.bind_eq_some_iff.mp H
  obtain ⟨t335, A40, H⟩ := H
  replace H : (some t335) = some r := H
  have A4 := Aside0.mk A40
  clear A40
  obtain rfl := Option.some.inj H
  go_enter Tryz.func34, Tryz.ntmps34
  go_wp2_with (first | ((with_reducible refine gate_callee (f := 71) rfl ?_); refine gm_ (some 8) Tryz.func71 #[.int .i64 a1] ?_; (with_reducible refine (trystref01_newYear.calls a1 t335 _ A4.out).mono ?_); rintro e w' ⟨rfl, ⟨nd, rfl⟩⟩; refine ⟨_, rfl, ?_⟩))
  go_ret
  exact ⟨by first | rfl | simp | simp [*] | simp [bne_nil_], by repeat (first | exact Drawn0.refl _ | apply Drawn0.step)⟩
 ·rw [if_neg c3] at H
  have c3b0 : (a0 == 3) = false := beq_eq_false_iff_ne.mpr c3
  have c3b1 : (a0 != 3) = true := bne_iff_ne.mpr c3
  replace H := Option.bind_eq_some_iff.mp H
  obtain ⟨t336, A50, H⟩ := H
  replace H : (some t336) = some r := H
  have A5 := Aside0.mk A50
  clear A50
  obtain rfl := Option.some.inj H
  go_enter Tryz.func34, Tryz.ntmps34
  go_wp2_with (first | ((with_reducible refine gate_callee (f := 37) rfl ?_); refine gm_ (some 11) Tryz.func37 #[.int .i64 a0, .int .i64 a1, .int .i64 1, .int .i64 1] ?_; (with_reducible refine (trystref01_Fixed.calls k a0 a1 1 1 t336 _ A5.out).mono ?_); rintro e w' ⟨rfl, ⟨nd, rfl⟩⟩; refine ⟨_, rfl, ?_⟩))
  go_ret
  exact ⟨by first | rfl | simp | simp [*] | simp [bne_nil_], by repeat (first | exact Drawn0.refl _ | apply Drawn0.step)⟩

/-! ### trystref01_Months: function 36 -/
def trystref01_Months.f (k : Nat) (a0 : Int) (a1 : Int) : Option (Int) := if a0 = 2 then ((trystref01_Week1.f k (wrap64 (a1 + 1)) 1).bind fun t337 => ((trystref01_Week1.f k a1 1).bind fun t338 => ((trystref01_Floor.f (wrap64 (t337 - t338)) 7).bind fun t339 => (some t339)))) else (if a0 = 3 then ((trystref01_hebrewLeap.f a1).bind fun t340 => (if t340 = true then (some 13) else (some 12))) else (if a0 = 6 then (some 13) else (some 12)))
set_option maxHeartbeats 8000000 in
set_option maxRecDepth 100000 in
theorem trystref01_Months.calls (k : Nat) (a0 : Int) (a1 : Int) (r : Int) (w : World) (h : trystref01_Months.f k a0 a1 = some r) :
  Calls Tryz.prog 36 #[.int .i64 a0, .int .i64 a1] w fun e w' => e = .returned (.int .i64 r) ∧ Drawn0 w w' := by
 have H : (if a0 = 2 then ((trystref01_Week1.f k (wrap64 (a1 + 1)) 1).bind fun t337 => ((trystref01_Week1.f k a1 1).bind fun t338 => ((trystref01_Floor.f (wrap64 (t337 - t338)) 7).bind fun t339 => (some t339)))) else (if a0 = 3 then ((trystref01_hebrewLeap.f a1).bind fun t340 => (if t340 = true then (some 13) else (some 12))) else (if a0 = 6 then (some 13) else (some 12)))) = some r := h
 clear h
 by_cases c3 : a0 = 2
 ·rw [if_pos c3] at H
  have c3b0 : (a0 == 2) = true := beq_iff_eq.mpr c3
  have c3b1 : (a0 != 2) = false := bne_eq_false_iff_eq.mpr c3
  clear c3
  replace H := Option.bind_eq_some_iff.mp H
  obtain ⟨t337, A40, H⟩ := H
  replace H : ((trystref01_Week1.f k a1 1).bind fun t338 => ((trystref01_Floor.f (wrap64 (t337 - t338)) 7).bind fun t339 => (some t339))) = some r := H
  have A4 := Aside0.mk A40
  clear A40
  replace H := Option.bind_eq_some_iff.mp H
  obtain ⟨t338, A50, H⟩ := H
  replace H : ((trystref01_Floor.f (wrap64 (t337 - t338)) 7).bind fun t339 => (some t339)) = some r := H
  have A5 := Aside0.mk A50
  clear A50
  replace H := Option.bind_eq_some_iff.mp H
  obtain ⟨t339, A60, H⟩ := H
  replace H : (some t339) = some r := H
  have A6 := Aside0.mk A60
  clear A60
  obtain rfl := Option.some.inj H
  go_enter Tryz.func36, Tryz.ntmps36
  go_wp2_with (first | ((with_reducible refine gate_callee (f := 74) rfl ?_); refine gm_ (some 10) Tryz.func74 #[.int .i64 (wrap64 (a1 + 1)), .int .i64 1] ?_; (with_reducible refine (trystref01_Week1.calls k (wrap64 (a1 + 1)) 1 t337 _ A4.out).mono ?_); rintro e w' ⟨rfl, ⟨nd, rfl⟩⟩; refine ⟨_, rfl, ?_⟩) | ((with_reducible refine gate_callee (f := 74) rfl ?_); refine gm_ (some 12) Tryz.func74 #[.int .i64 a1, .int .i64 1] ?_; (with_reducible refine (trystref01_Week1.calls k a1 1 t338 _ A5.out).mono ?_); rintro e w' ⟨rfl, ⟨nd, rfl⟩⟩; refine ⟨_, rfl, ?_⟩) | ((with_reducible refine gate_callee (f := 33) rfl ?_); refine gm_ (some 14) Tryz.func33 #[.int .i64 (wrap64 (t337 - t338)), .int .i64 7] ?_; (with_reducible refine (trystref01_Floor.calls (wrap64 (t337 - t338)) 7 t339 _ A6.out).mono ?_); rintro e w' ⟨rfl, ⟨nd, rfl⟩⟩; refine ⟨_, rfl, ?_⟩))
  go_ret
  exact ⟨by first | rfl | simp | simp [*] | simp [bne_nil_], by repeat (first | exact Drawn0.refl _ | apply Drawn0.step)⟩
 ·rw [if_neg c3] at H
  have c3b0 : (a0 == 2) = false := beq_eq_false_iff_ne.mpr c3
  have c3b1 : (a0 != 2) = true := bne_iff_ne.mpr c3
  by_cases c7 : a0 = 3
  ·rw [if_pos c7] at H
   have c7b0 : (a0 == 3) = true := beq_iff_eq.mpr c7
   have c7b1 : (a0 != 3) = false := bne_eq_false_iff_eq.mpr c7
   clear c7
   replace H := Option.bind_eq_some_iff.mp H
   obtain ⟨t340, A80, H⟩ := H
   replace H : (if t340 = true then (some 13) else (some 12)) = some r := H
   have A8 := Aside0.mk A80
   clear A80
   by_cases c9 : t340 = true
   ·subst c9
    have H1 : (some 13) = some r := by rw [if_pos rfl] at H; exact H
    clear H
    have H := H1
    clear H1
    obtain rfl := Option.some.inj H
    go_enter Tryz.func36, Tryz.ntmps36
    go_wp2_with (first | ((with_reducible refine gate_callee (f := 75) rfl ?_); refine gm_ (some 18) Tryz.func75 #[.int .i64 a1] ?_; (with_reducible refine (trystref01_hebrewLeap.calls a1 true _ A8.out).mono ?_); rintro e w' ⟨rfl, ⟨nd, rfl⟩⟩; refine ⟨_, rfl, ?_⟩))
    go_ret
    exact ⟨by first | rfl | simp | simp [*] | simp [bne_nil_], by repeat (first | exact Drawn0.refl _ | apply Drawn0.step)⟩
   ·replace c9 := Bool.eq_false_iff.mpr c9
    subst c9
    have H1 : (some 12) = some r := by rw [if_neg (show ¬ (false = true) by decide)] at H; exact H
    clear H
    have H := H1
    clear H1
    obtain rfl := Option.some.inj H
    go_enter Tryz.func36, Tryz.ntmps36
    go_wp2_with (first | ((with_reducible refine gate_callee (f := 75) rfl ?_); refine gm_ (some 18) Tryz.func75 #[.int .i64 a1] ?_; (with_reducible refine (trystref01_hebrewLeap.calls a1 false _ A8.out).mono ?_); rintro e w' ⟨rfl, ⟨nd, rfl⟩⟩; refine ⟨_, rfl, ?_⟩))
    go_ret
    exact ⟨by first | rfl | simp | simp [*] | simp [bne_nil_], by repeat (first | exact Drawn0.refl _ | apply Drawn0.step)⟩
  ·rw [if_neg c7] at H
   have c7b0 : (a0 == 3) = false := beq_eq_false_iff_ne.mpr c7
   have c7b1 : (a0 != 3) = true := bne_iff_ne.mpr c7
   by_cases c10 : a0 = 6
   ·rw [if_pos c10] at H
    have c10b0 : (a0 == 6) = true := beq_iff_eq.mpr c10
    have c10b1 : (a0 != 6) = false := bne_eq_false_iff_eq.mpr c10
    clear c10
    obtain rfl := Option.some.inj H
    go_enter Tryz.func36, Tryz.ntmps36
    go_wp2
    go_ret
    exact ⟨by first | rfl | simp | simp [*] | simp [bne_nil_], by repeat (first | exact Drawn0.refl _ | apply Drawn0.step)⟩
   ·rw [if_neg c10] at H
    have c10b0 : (a0 == 6) = false := beq_eq_false_iff_ne.mpr c10
    have c10b1 : (a0 != 6) = true := bne_iff_ne.mpr c10
    obtain rfl := Option.some.inj H
    go_enter Tryz.func36, Tryz.ntmps36
    go_wp2
    go_ret
    exact ⟨by first | rfl | simp | simp [*] | simp [bne_nil_], by repeat (first | exact Drawn0.refl _ | apply Drawn0.step)⟩

end Go.Proofs.YtgbbgcepcnklkaaGreatDoor.Q
