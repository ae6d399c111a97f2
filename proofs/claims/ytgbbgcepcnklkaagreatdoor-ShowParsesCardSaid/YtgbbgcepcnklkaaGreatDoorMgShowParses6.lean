/- Texts of this claim, merged: Qheb. -/
import Derived.Test.YtgbbgcepcnklkaaGreatDoorMgShowParses1
namespace Go.Proofs.YtgbbgcepcnklkaaGreatDoor.Q
open Go.RowKit Go.Proofs.YtgbbgcepcnklkaaGreatDoorW.PrintWords Go.Proofs.YtgbbgcepcnklkaaGreatDoorW.PrintLast Go.Proofs.YtgbbgcepcnklkaaGreatDoorW.PrintMore
attribute [local go_sem] max2_int min2_int max_two min_two
set_option linter.unusedVariables false
set_option linter.unusedSimpArgs false
/-! ### hebrew_right: function 100 -/
def hebrew_right.f (a0 : Int) : Option (Bool) := if a0 ≥ 1 then (some (decide (a0 ≤ 20000))) else (some false)
set_option maxHeartbeats 8000000 in
set_option maxRecDepth 100000 in
theorem hebrew_right.calls (a0 : Int) (r : Bool) (w : World) (h : hebrew_right.f a0 = some r) :
  Calls Tryz.prog 100 #[.int .i64 a0] w fun e w' => e = .returned (.bool r) ∧ Drawn0 w w' := by
 have H : (if a0 ≥ 1 then (some (decide (a0 ≤ 20000))) else (some false)) = some r := h
 clear h
 by_cases c2 : a0 ≥ 1
 ·rw [if_pos c2] at H
  have c2b0 : decide (1 ≤ a0) = true := decide_eq_true c2
  clear c2
  obtain rfl := Option.some.inj H
  go_enter Tryz.func100, Tryz.ntmps100
  go_wp2
  go_ret
  exact ⟨by first | rfl | simp | simp [*] | simp [bne_nil_], by repeat (first | exact Drawn0.refl _ | apply Drawn0.step)⟩
 ·rw [if_neg c2] at H
  have c2b0 : decide (1 ≤ a0) = false := decide_eq_false c2
  clear c2
  obtain rfl := Option.some.inj H
  go_enter Tryz.func100, Tryz.ntmps100
  go_wp2
  go_ret
  exact ⟨by first | rfl | simp | simp [*] | simp [bne_nil_], by repeat (first | exact Drawn0.refl _ | apply Drawn0.step)⟩

/-! ### hebrew_leap: function 103 -/
def hebrew_leap.f (a0 : Int) : Option (Bool) := (rata_Mod.f (wrap64 ((wrap64 (7 * a0)) + 1)) 19).bind fun t142 => (some (decide (t142 < 7)))
set_option maxHeartbeats 8000000 in
set_option maxRecDepth 100000 in
theorem hebrew_leap.calls (a0 : Int) (r : Bool) (w : World) (h : hebrew_leap.f a0 = some r) :
  Calls Tryz.prog 103 #[.int .i64 a0] w fun e w' => e = .returned (.bool r) ∧ Drawn0 w w' := by
 have H : ((rata_Mod.f (wrap64 ((wrap64 (7 * a0)) + 1)) 19).bind fun t142 => (some (decide (t142 < 7)))) = some r := h
 clear h
 replace H := Option.bind_eq_some_iff.mp H
 obtain ⟨t142, A20, H⟩ := H
 replace H : (some (decide (t142 < 7))) = some r := H
 have A2 := Aside0.mk A20
 clear A20
 obtain rfl := Option.some.inj H
 go_enter Tryz.func103, Tryz.ntmps103
 go_wp2_with (first | ((with_reducible refine gate_callee (f := 85) rfl ?_); refine gm_ (some 6) Tryz.func85 #[.int .i64 (wrap64 ((wrap64 (7 * a0)) + 1)), .int .i64 19] ?_; (with_reducible refine (rata_Mod.calls (wrap64 ((wrap64 (7 * a0)) + 1)) 19 t142 _ A2.out).mono ?_); rintro e w' ⟨rfl, ⟨nd, rfl⟩⟩; refine ⟨_, rfl, ?_⟩))
 go_ret
 exact ⟨by first | rfl | simp | simp [*] | simp [bne_nil_], by repeat (first | exact Drawn0.refl _ | apply Drawn0.step)⟩

/-! ### hebrew_last: function 101 -/
def hebrew_last.f (a0 : Int) : Option (Int) := (hebrew_leap.f a0).bind fun t143 => (if t143 = true then (some 13) else (some 12))
set_option maxHeartbeats 8000000 in
set_option maxRecDepth 100000 in
theorem hebrew_last.calls (a0 : Int) (r : Int) (w : World) (h : hebrew_last.f a0 = some r) :
  Calls Tryz.prog 101 #[.int .i64 a0] w fun e w' => e = .returned (.int .i64 r) ∧ Drawn0 w w' := by
 have H : ((hebrew_leap.f a0).bind fun t143 => (if t143 = true then (some 13) else (some 12))) = some r := h
 clear h
 replace H := Option.bind_eq_some_iff.mp H
 obtain ⟨t143, A20, H⟩ := H
 replace H : (if t143 = true then (some 13) else (some 12)) = some r := H
 have A2 := Aside0.mk A20
 clear A20
 by_cases c3 : t143 = true
 ·subst c3
  have H1 : (some 13) = some r := by rw [if_pos rfl] at H; exact H
  clear H
  have H := H1
  clear H1
  obtain rfl := Option.some.inj H
  go_enter Tryz.func101, Tryz.ntmps101
  go_wp2_with (first | ((with_reducible refine gate_callee (f := 103) rfl ?_); refine gm_ (some 4) Tryz.func103 #[.int .i64 a0] ?_; (with_reducible refine (hebrew_leap.calls a0 true _ A2.out).mono ?_); rintro e w' ⟨rfl, ⟨nd, rfl⟩⟩; refine ⟨_, rfl, ?_⟩))
  go_ret
  exact ⟨by first | rfl | simp | simp [*] | simp [bne_nil_], by repeat (first | exact Drawn0.refl _ | apply Drawn0.step)⟩
 ·replace c3 := Bool.eq_false_iff.mpr c3
  subst c3
  have H1 : (some 12) = some r := by rw [if_neg (show ¬ (false = true) by decide)] at H; exact H
  clear H
  have H := H1
  clear H1
  obtain rfl := Option.some.inj H
  go_enter Tryz.func101, Tryz.ntmps101
  go_wp2_with (first | ((with_reducible refine gate_callee (f := 103) rfl ?_); refine gm_ (some 4) Tryz.func103 #[.int .i64 a0] ?_; (with_reducible refine (hebrew_leap.calls a0 false _ A2.out).mono ?_); rintro e w' ⟨rfl, ⟨nd, rfl⟩⟩; refine ⟨_, rfl, ?_⟩))
  go_ret
  exact ⟨by first | rfl | simp | simp [*] | simp [bne_nil_], by repeat (first | exact Drawn0.refl _ | apply Drawn0.step)⟩

/-! ### hebrew_elapsed: function 104 -/
def hebrew_elapsed.f (a0 : Int) : Option (Int) := (rata_Floor.f (wrap64 ((wrap64 (235 * a0)) - 234)) 19).bind fun t144 => ((rata_Floor.f (wrap64 (12084 + (wrap64 (13753 * t144)))) 25920).bind fun t145 => ((rata_Mod.f (wrap64 (3 * (wrap64 ((wrap64 ((wrap64 (29 * t144)) + t145)) + 1)))) 7).bind fun t146 => (if t146 < 3 then (some (wrap64 ((wrap64 ((wrap64 (29 * t144)) + t145)) + 1))) else (some (wrap64 ((wrap64 (29 * t144)) + t145))))))
set_option maxHeartbeats 8000000 in
set_option maxRecDepth 100000 in
theorem hebrew_elapsed.calls (a0 : Int) (r : Int) (w : World) (h : hebrew_elapsed.f a0 = some r) :
  Calls Tryz.prog 104 #[.int .i64 a0] w fun e w' => e = .returned (.int .i64 r) ∧ Drawn0 w w' := by
 have H : ((rata_Floor.f (wrap64 ((wrap64 (235 * a0)) - 234)) 19).bind fun t144 => ((rata_Floor.f (wrap64 (12084 + (wrap64 (13753 * t144)))) 25920).bind fun t145 => ((rata_Mod.f (wrap64 (3 * (wrap64 ((wrap64 ((wrap64 (29 * t144)) + t145)) + 1)))) 7).bind fun t146 => (if t146 < 3 then (some (wrap64 ((wrap64 ((wrap64 (29 * t144)) + t145)) + 1))) else (some (wrap64 ((wrap64 (29 * t144)) + t145))))))) = some r := h
 clear h
 replace H := Option.bind_eq_some_iff.mp H
 obtain ⟨t144, A20, H⟩ := H
 replace H : ((rata_Floor.f (wrap64 (12084 + (wrap64 (13753 * t144)))) 25920).bind fun t145 => ((rata_Mod.f (wrap64 (3 * (wrap64 ((wrap64 ((wrap64 (29 * t144)) + t145)) + 1)))) 7).bind fun t146 => (if t146 < 3 then (some (wrap64 ((wrap64 ((wrap64 (29 * t144)) + t145)) + 1))) else (some (wrap64 ((wrap64 (29 * t144)) + t145)))))) = some r := H
 have A2 := Aside0.mk A20
 clear A20
 replace H := Option.bind_eq_some_iff.mp H
 obtain ⟨t145, A30, H⟩ := H
 replace H : ((rata_Mod.f (wrap64 (3 * (wrap64 ((wrap64 ((wrap64 (29 * t144)) + t145)) + 1)))) 7).bind fun t146 => (if t146 < 3 then (some (wrap64 ((wrap64 ((wrap64 (29 * t144)) + t145)) + 1))) else (some (wrap64 ((wrap64 (29 * t144)) + t145))))) = some r := H
 have A3 := Aside0.mk A30
 clear A30
 replace H := Option.bind_eq_some_iff.mp H
 obtain ⟨t146, A40, H⟩ := H
 replace H : (if t146 < 3 then (some (wrap64 ((wrap64 ((wrap64 (29 * t144)) + t145)) + 1))) else (some (wrap64 ((wrap64 (29 * t144)) + t145)))) = some r := H
 have A4 := Aside0.mk A40
 clear A40
 by_cases c5 : t146 < 3
 ·rw [if_pos c5] at H
  have c5b0 : decide (t146 < 3) = true := decide_eq_true c5
  clear c5
  obtain rfl := Option.some.inj H
  go_enter Tryz.func104, Tryz.ntmps104
  go_wp2_with (first | ((with_reducible refine gate_callee (f := 83) rfl ?_); refine gm_ (some 9) Tryz.func83 #[.int .i64 (wrap64 ((wrap64 (235 * a0)) - 234)), .int .i64 19] ?_; (with_reducible refine (rata_Floor.calls (wrap64 ((wrap64 (235 * a0)) - 234)) 19 t144 _ A2.out).mono ?_); rintro e w' ⟨rfl, ⟨nd, rfl⟩⟩; refine ⟨_, rfl, ?_⟩) | ((with_reducible refine gate_callee (f := 83) rfl ?_); refine gm_ (some 16) Tryz.func83 #[.int .i64 (wrap64 (12084 + (wrap64 (13753 * t144)))), .int .i64 25920] ?_; (with_reducible refine (rata_Floor.calls (wrap64 (12084 + (wrap64 (13753 * t144)))) 25920 t145 _ A3.out).mono ?_); rintro e w' ⟨rfl, ⟨nd, rfl⟩⟩; refine ⟨_, rfl, ?_⟩) | ((with_reducible refine gate_callee (f := 85) rfl ?_); refine gm_ (some 21) Tryz.func85 #[.int .i64 (wrap64 (3 * (wrap64 ((wrap64 ((wrap64 (29 * t144)) + t145)) + 1)))), .int .i64 7] ?_; (with_reducible refine (rata_Mod.calls (wrap64 (3 * (wrap64 ((wrap64 ((wrap64 (29 * t144)) + t145)) + 1)))) 7 t146 _ A4.out).mono ?_); rintro e w' ⟨rfl, ⟨nd, rfl⟩⟩; refine ⟨_, rfl, ?_⟩))
  go_ret
  exact ⟨by first | rfl | simp | simp [*] | simp [bne_nil_], by repeat (first | exact Drawn0.refl _ | apply Drawn0.step)⟩
 ·rw [if_neg c5] at H
  have c5b0 : decide (t146 < 3) = false := decide_eq_false c5
  clear c5
  obtain rfl := Option.some.inj H
  go_enter Tryz.func104, Tryz.ntmps104
  go_wp2_with (first | ((with_reducible refine gate_callee (f := 83) rfl ?_); refine gm_ (some 9) Tryz.func83 #[.int .i64 (wrap64 ((wrap64 (235 * a0)) - 234)), .int .i64 19] ?_; (with_reducible refine (rata_Floor.calls (wrap64 ((wrap64 (235 * a0)) - 234)) 19 t144 _ A2.out).mono ?_); rintro e w' ⟨rfl, ⟨nd, rfl⟩⟩; refine ⟨_, rfl, ?_⟩) | ((with_reducible refine gate_callee (f := 83) rfl ?_); refine gm_ (some 16) Tryz.func83 #[.int .i64 (wrap64 (12084 + (wrap64 (13753 * t144)))), .int .i64 25920] ?_; (with_reducible refine (rata_Floor.calls (wrap64 (12084 + (wrap64 (13753 * t144)))) 25920 t145 _ A3.out).mono ?_); rintro e w' ⟨rfl, ⟨nd, rfl⟩⟩; refine ⟨_, rfl, ?_⟩) | ((with_reducible refine gate_callee (f := 85) rfl ?_); refine gm_ (some 21) Tryz.func85 #[.int .i64 (wrap64 (3 * (wrap64 ((wrap64 ((wrap64 (29 * t144)) + t145)) + 1)))), .int .i64 7] ?_; (with_reducible refine (rata_Mod.calls (wrap64 (3 * (wrap64 ((wrap64 ((wrap64 (29 * t144)) + t145)) + 1)))) 7 t146 _ A4.out).mono ?_); rintro e w' ⟨rfl, ⟨nd, rfl⟩⟩; refine ⟨_, rfl, ?_⟩))
  go_ret
  exact ⟨by first | rfl | simp | simp [*] | simp [bne_nil_], by repeat (first | exact Drawn0.refl _ | apply Drawn0.step)⟩

/-! ### hebrew_delay: function 105 -/
def hebrew_delay.f (a0 : Int) : Option (Int) := (hebrew_elapsed.f a0).bind fun t147 => ((hebrew_elapsed.f (wrap64 (a0 + 1))).bind fun t148 => (if (wrap64 (t148 - t147)) = 356 then (some 2) else ((hebrew_elapsed.f (wrap64 (a0 - 1))).bind fun t149 => (if (wrap64 (t147 - t149)) = 382 then (some 1) else (some 0)))))
set_option maxHeartbeats 8000000 in
set_option maxRecDepth 100000 in
theorem hebrew_delay.calls (a0 : Int) (r : Int) (w : World) (h : hebrew_delay.f a0 = some r) :
  Calls Tryz.prog 105 #[.int .i64 a0] w fun e w' => e = .returned (.int .i64 r) ∧ Drawn0 w w' := by
 have H : ((hebrew_elapsed.f a0).bind fun t147 => ((hebrew_elapsed.f (wrap64 (a0 + 1))).bind fun t148 => (if (wrap64 (t148 - t147)) = 356 then (some 2) else ((hebrew_elapsed.f (wrap64 (a0 - 1))).bind fun t149 => (if (wrap64 (t147 - t149)) = 382 then (some 1) else (some 0)))))) = some r := h
 clear h
 replace H := Option.bind_eq_some_iff.mp H
 obtain ⟨t147, A20, H⟩ := H
 replace H : ((hebrew_elapsed.f (wrap64 (a0 + 1))).bind fun t148 => (if (wrap64 (t148 - t147)) = 356 then (some 2) else ((hebrew_elapsed.f (wrap64 (a0 - 1))).bind fun t149 => (if (wrap64 (t147 - t149)) = 382 then (some 1) else (some 0))))) = some r := H
 have A2 := Aside0.mk A20
 clear A20
 replace H := Option.bind_eq_some_iff.mp H
 obtain ⟨t148, A30, H⟩ := H
 replace H : (if (wrap64 (t148 - t147)) = 356 then (some 2) else ((hebrew_elapsed.f (wrap64 (a0 - 1))).bind fun t149 => (if (wrap64 (t147 - t149)) = 382 then (some 1) else (some 0)))) = some r := H
 have A3 := Aside0.mk A30
 clear A30
 by_cases c4 : (wrap64 (t148 - t147)) = 356
 ·rw [if_pos c4] at H
  have c4b0 : ((wrap64 (t148 - t147)) == 356) = true := beq_iff_eq.mpr c4
  have c4b1 : ((wrap64 (t148 - t147)) != 356) = false := bne_eq_false_iff_eq.mpr c4
  clear c4
  obtain rfl := Option.some.inj H
  go_enter Tryz.func105, Tryz.ntmps105
  go_wp2_with (first | ((with_reducible refine gate_callee (f := 104) rfl ?_); refine gm_ (some 5) Tryz.func104 #[.int .i64 a0] ?_; (with_reducible refine (hebrew_elapsed.calls a0 t147 _ A2.out).mono ?_); rintro e w' ⟨rfl, ⟨nd, rfl⟩⟩; refine ⟨_, rfl, ?_⟩) | ((with_reducible refine gate_callee (f := 104) rfl ?_); refine gm_ (some 9) Tryz.func104 #[.int .i64 (wrap64 (a0 + 1))] ?_; (with_reducible refine (hebrew_elapsed.calls (wrap64 (a0 + 1)) t148 _ A3.out).mono ?_); rintro e w' ⟨rfl, ⟨nd, rfl⟩⟩; refine ⟨_, rfl, ?_⟩))
  go_ret
  exact ⟨by first | rfl | simp | simp [*] | simp [bne_nil_], by repeat (first | exact Drawn0.refl _ | apply Drawn0.step)⟩
 ·rw [if_neg c4] at H
  have c4b0 : ((wrap64 (t148 - t147)) == 356) = false := beq_eq_false_iff_ne.mpr c4
  have c4b1 : ((wrap64 (t148 - t147)) != 356) = true := bne_iff_ne.mpr c4
  replace H := Option.bind_eq_some_iff.mp H
  obtain ⟨t149, A50, H⟩ := H
  replace H : (if (wrap64 (t147 - t149)) = 382 then (some 1) else (some 0)) = some r := H
  have A5 := Aside0.mk A50
  clear A50
  by_cases c6 : (wrap64 (t147 - t149)) = 382
  ·rw [if_pos c6] at H
   have c6b0 : ((wrap64 (t147 - t149)) == 382) = true := beq_iff_eq.mpr c6
   have c6b1 : ((wrap64 (t147 - t149)) != 382) = false := bne_eq_false_iff_eq.mpr c6
   clear c6
   obtain rfl := Option.some.inj H
   go_enter Tryz.func105, Tryz.ntmps105
   go_wp2_with (first | ((with_reducible refine gate_callee (f := 104) rfl ?_); refine gm_ (some 5) Tryz.func104 #[.int .i64 a0] ?_; (with_reducible refine (hebrew_elapsed.calls a0 t147 _ A2.out).mono ?_); rintro e w' ⟨rfl, ⟨nd, rfl⟩⟩; refine ⟨_, rfl, ?_⟩) | ((with_reducible refine gate_callee (f := 104) rfl ?_); refine gm_ (some 9) Tryz.func104 #[.int .i64 (wrap64 (a0 + 1))] ?_; (with_reducible refine (hebrew_elapsed.calls (wrap64 (a0 + 1)) t148 _ A3.out).mono ?_); rintro e w' ⟨rfl, ⟨nd, rfl⟩⟩; refine ⟨_, rfl, ?_⟩) | ((with_reducible refine gate_callee (f := 104) rfl ?_); refine gm_ (some 17) Tryz.func104 #[.int .i64 (wrap64 (a0 - 1))] ?_; (with_reducible refine (hebrew_elapsed.calls (wrap64 (a0 - 1)) t149 _ A5.out).mono ?_); rintro e w' ⟨rfl, ⟨nd, rfl⟩⟩; refine ⟨_, rfl, ?_⟩))
   go_ret
   exact ⟨by first | rfl | simp | simp [*] | simp [bne_nil_], by repeat (first | exact Drawn0.refl _ | apply Drawn0.step)⟩
  ·rw [if_neg c6] at H
   have c6b0 : ((wrap64 (t147 - t149)) == 382) = false := beq_eq_false_iff_ne.mpr c6
   have c6b1 : ((wrap64 (t147 - t149)) != 382) = true := bne_iff_ne.mpr c6
   obtain rfl := Option.some.inj H
   go_enter Tryz.func105, Tryz.ntmps105
   go_wp2_with (first | ((with_reducible refine gate_callee (f := 104) rfl ?_); refine gm_ (some 5) Tryz.func104 #[.int .i64 a0] ?_; (with_reducible refine (hebrew_elapsed.calls a0 t147 _ A2.out).mono ?_); rintro e w' ⟨rfl, ⟨nd, rfl⟩⟩; refine ⟨_, rfl, ?_⟩) | ((with_reducible refine gate_callee (f := 104) rfl ?_); refine gm_ (some 9) Tryz.func104 #[.int .i64 (wrap64 (a0 + 1))] ?_; (with_reducible refine (hebrew_elapsed.calls (wrap64 (a0 + 1)) t148 _ A3.out).mono ?_); rintro e w' ⟨rfl, ⟨nd, rfl⟩⟩; refine ⟨_, rfl, ?_⟩) | ((with_reducible refine gate_callee (f := 104) rfl ?_); refine gm_ (some 17) Tryz.func104 #[.int .i64 (wrap64 (a0 - 1))] ?_; (with_reducible refine (hebrew_elapsed.calls (wrap64 (a0 - 1)) t149 _ A5.out).mono ?_); rintro e w' ⟨rfl, ⟨nd, rfl⟩⟩; refine ⟨_, rfl, ?_⟩))
   go_ret
   exact ⟨by first | rfl | simp | simp [*] | simp [bne_nil_], by repeat (first | exact Drawn0.refl _ | apply Drawn0.step)⟩

/-! ### hebrew_begins: function 62 -/
def hebrew_begins.f (a0 : Int) : Option (Int) := (hebrew_elapsed.f a0).bind fun t150 => ((hebrew_delay.f a0).bind fun t151 => (some (wrap64 ((wrap64 ((-1373427) + t150)) + t151))))
set_option maxHeartbeats 8000000 in
set_option maxRecDepth 100000 in
theorem hebrew_begins.calls (a0 : Int) (r : Int) (w : World) (h : hebrew_begins.f a0 = some r) :
  Calls Tryz.prog 62 #[.int .i64 a0] w fun e w' => e = .returned (.int .i64 r) ∧ Drawn0 w w' := by
 have H : ((hebrew_elapsed.f a0).bind fun t150 => ((hebrew_delay.f a0).bind fun t151 => (some (wrap64 ((wrap64 ((-1373427) + t150)) + t151))))) = some r := h
 clear h
 replace H := Option.bind_eq_some_iff.mp H
 obtain ⟨t150, A20, H⟩ := H
 replace H : ((hebrew_delay.f a0).bind fun t151 => (some (wrap64 ((wrap64 ((-1373427) + t150)) + t151)))) = some r := H
 have A2 := Aside0.mk A20
 clear A20
 replace H := Option.bind_eq_some_iff.mp H
 obtain ⟨t151, A30, H⟩ := H
 replace H : (some (wrap64 ((wrap64 ((-1373427) + t150)) + t151))) = some r := H
 have A3 := Aside0.mk A30
 clear A30
 obtain rfl := Option.some.inj H
 go_enter Tryz.func62, Tryz.ntmps62
 go_wp2_with (first | ((with_reducible refine gate_callee (f := 104) rfl ?_); refine gm_ (some 4) Tryz.func104 #[.int .i64 a0] ?_; (with_reducible refine (hebrew_elapsed.calls a0 t150 _ A2.out).mono ?_); rintro e w' ⟨rfl, ⟨nd, rfl⟩⟩; refine ⟨_, rfl, ?_⟩) | ((with_reducible refine gate_callee (f := 105) rfl ?_); refine gm_ (some 7) Tryz.func105 #[.int .i64 a0] ?_; (with_reducible refine (hebrew_delay.calls a0 t151 _ A3.out).mono ?_); rintro e w' ⟨rfl, ⟨nd, rfl⟩⟩; refine ⟨_, rfl, ?_⟩))
 go_ret
 exact ⟨by first | rfl | simp | simp [*] | simp [bne_nil_], by repeat (first | exact Drawn0.refl _ | apply Drawn0.step)⟩

/-! ### hebrew_days: function 102 -/
def hebrew_days.f (a0 : Int) : Option (Int) := (hebrew_begins.f (wrap64 (a0 + 1))).bind fun t152 => ((hebrew_begins.f a0).bind fun t153 => (some (wrap64 (t152 - t153))))
set_option maxHeartbeats 8000000 in
set_option maxRecDepth 100000 in
theorem hebrew_days.calls (a0 : Int) (r : Int) (w : World) (h : hebrew_days.f a0 = some r) :
  Calls Tryz.prog 102 #[.int .i64 a0] w fun e w' => e = .returned (.int .i64 r) ∧ Drawn0 w w' := by
 have H : ((hebrew_begins.f (wrap64 (a0 + 1))).bind fun t152 => ((hebrew_begins.f a0).bind fun t153 => (some (wrap64 (t152 - t153))))) = some r := h
 clear h
 replace H := Option.bind_eq_some_iff.mp H
 obtain ⟨t152, A20, H⟩ := H
 replace H : ((hebrew_begins.f a0).bind fun t153 => (some (wrap64 (t152 - t153)))) = some r := H
 have A2 := Aside0.mk A20
 clear A20
 replace H := Option.bind_eq_some_iff.mp H
 obtain ⟨t153, A30, H⟩ := H
 replace H : (some (wrap64 (t152 - t153))) = some r := H
 have A3 := Aside0.mk A30
 clear A30
 obtain rfl := Option.some.inj H
 go_enter Tryz.func102, Tryz.ntmps102
 go_wp2_with (first | ((with_reducible refine gate_callee (f := 62) rfl ?_); refine gm_ (some 5) Tryz.func62 #[.int .i64 (wrap64 (a0 + 1))] ?_; (with_reducible refine (hebrew_begins.calls (wrap64 (a0 + 1)) t152 _ A2.out).mono ?_); rintro e w' ⟨rfl, ⟨nd, rfl⟩⟩; refine ⟨_, rfl, ?_⟩) | ((with_reducible refine gate_callee (f := 62) rfl ?_); refine gm_ (some 7) Tryz.func62 #[.int .i64 a0] ?_; (with_reducible refine (hebrew_begins.calls a0 t153 _ A3.out).mono ?_); rintro e w' ⟨rfl, ⟨nd, rfl⟩⟩; refine ⟨_, rfl, ?_⟩))
 go_ret
 exact ⟨by first | rfl | simp | simp [*] | simp [bne_nil_], by repeat (first | exact Drawn0.refl _ | apply Drawn0.step)⟩

/-! ### hebrew_Length: function 61 -/
mutual
def hebrew_Length.j0 : Nat → Int → Int → Bool → Option (Int)
 | 0, _, _, _ => none
 | k + 1, x0, x1, x18 => if x18 = true then (some 0) else ((hebrew_days.f x0).bind fun t156 => (if x1 = 2 then (hebrew_Length.j1 k x0 t156 x1 (x1 == 2)) else (if x1 = 4 then (hebrew_Length.j1 k x0 t156 x1 (x1 == 4)) else (if x1 = 6 then (hebrew_Length.j1 k x0 t156 x1 (x1 == 6)) else (if x1 = 10 then (hebrew_Length.j1 k x0 t156 x1 (x1 == 10)) else (hebrew_Length.j1 k x0 t156 x1 (x1 == 13)))))))
def hebrew_Length.j1 : Nat → Int → Int → Int → Bool → Option (Int)
 | 0, _, _, _, _ => none
 | k + 1, x0, x5, x21, x22 => if x22 = true then (some 29) else (if x21 = 12 then ((hebrew_leap.f x0).bind fun t157 => (if t157 = true then (some 30) else (some 29))) else (if x21 = 8 then (if x5 = 355 then (some 30) else (if x5 = 385 then (some 30) else (some 29))) else (if x21 = 9 then (if x5 = 353 then (some 29) else (if x5 = 383 then (some 29) else (some 30))) else (some 30))))
end
def hebrew_Length.f (k : Nat) (a0 : Int) (a1 : Int) : Option (Int) := (hebrew_right.f a0).bind fun t154 => (if t154 = true then (if a1 < 1 then (hebrew_Length.j0 k a0 a1 true) else ((hebrew_last.f a0).bind fun t155 => (hebrew_Length.j0 k a0 a1 (decide (a1 > t155))))) else (hebrew_Length.j0 k a0 a1 true))
set_option maxHeartbeats 8000000 in
set_option maxRecDepth 100000 in
theorem hebrew_Length.calls (k : Nat) (a0 : Int) (a1 : Int) (r : Int) (w : World) (h : hebrew_Length.f k a0 a1 = some r) :
  Calls Tryz.prog 61 #[.int .i64 a0, .int .i64 a1] w fun e w' => e = .returned (.int .i64 r) ∧ Drawn0 w w' := by
 have H : ((hebrew_right.f a0).bind fun t154 => (if t154 = true then (if a1 < 1 then (hebrew_Length.j0 k a0 a1 true) else ((hebrew_last.f a0).bind fun t155 => (hebrew_Length.j0 k a0 a1 (decide (a1 > t155))))) else (hebrew_Length.j0 k a0 a1 true))) = some r := h
 clear h
 have HC3 := Aside0.mk H
 clear H
 go_enter Tryz.func61, Tryz.ntmps61
 go_upto_region 1 with (fail)
 go_cut [18] (fun v18 wc => ∃ (kq : Nat) (x18_2 : Bool), v18 = .bool x18_2 ∧ Aside0 (hebrew_Length.j0 kq a0 a1 x18_2 = some r) ∧ Aside0 (kq ≤ k) ∧ Drawn0 w wc)
 case first =>
  have H := HC3.out
  clear HC3
  replace H := Option.bind_eq_some_iff.mp H
  obtain ⟨t154, A40, H⟩ := H
  replace H : (if t154 = true then (if a1 < 1 then (hebrew_Length.j0 k a0 a1 true) else ((hebrew_last.f a0).bind fun t155 => (hebrew_Length.j0 k a0 a1 (decide (a1 > t155))))) else (hebrew_Length.j0 k a0 a1 true)) = some r := H
  have A4 := Aside0.mk A40
  clear A40
  by_cases c5 : t154 = true
  ·subst c5
   have H1 : (if a1 < 1 then (hebrew_Length.j0 k a0 a1 true) else ((hebrew_last.f a0).bind fun t155 => (hebrew_Length.j0 k a0 a1 (decide (a1 > t155))))) = some r := by rw [if_pos rfl] at H; exact H
   clear H
   have H := H1
   clear H1
   by_cases c6 : a1 < 1
   ·rw [if_pos c6] at H
    have c6b0 : decide (a1 < 1) = true := decide_eq_true c6
    clear c6
    (first | rw [c6b0] | (simp only [i64_w, i32_w]; rw [c6b0]) | skip)
    have H' := Aside0.mk H
    clear H
    go_wp2_with (first | ((with_reducible refine gate_callee (f := 100) rfl ?_); refine gm_ (some 7) Tryz.func100 #[.int .i64 a0] ?_; (with_reducible refine (hebrew_right.calls a0 true _ A4.out).mono ?_); rintro e w' ⟨rfl, ⟨nd, rfl⟩⟩; refine ⟨_, rfl, ?_⟩))
    go_meet
    case rel => exact ⟨_, (true), (by first | rfl | (simp; done) | (simp [*]; done)), H', ⟨by first | omega | exact Nat.le_refl _⟩, by repeat (first | exact Drawn0.refl _ | apply Drawn0.step)⟩
   ·rw [if_neg c6] at H
    have c6b0 : decide (a1 < 1) = false := decide_eq_false c6
    clear c6
    (first | rw [c6b0] | (simp only [i64_w, i32_w]; rw [c6b0]) | skip)
    replace H := Option.bind_eq_some_iff.mp H
    obtain ⟨t155, A70, H⟩ := H
    replace H : (hebrew_Length.j0 k a0 a1 (decide (a1 > t155))) = some r := H
    have A7 := Aside0.mk A70
    clear A70
    have H' := Aside0.mk H
    clear H
    go_wp2_with (first | ((with_reducible refine gate_callee (f := 100) rfl ?_); refine gm_ (some 7) Tryz.func100 #[.int .i64 a0] ?_; (with_reducible refine (hebrew_right.calls a0 true _ A4.out).mono ?_); rintro e w' ⟨rfl, ⟨nd, rfl⟩⟩; refine ⟨_, rfl, ?_⟩) | (go_at_call 101; (with_reducible refine (hebrew_last.calls a0 t155 _ A7.out).mono ?_); rintro e w' ⟨rfl, ⟨nd, rfl⟩⟩))
    go_meet
    case rel => exact ⟨_, (decide (a1 > t155)), (by first | rfl | (simp; done) | (simp [*]; done)), H', ⟨by first | omega | exact Nat.le_refl _⟩, by repeat (first | exact Drawn0.refl _ | apply Drawn0.step)⟩
  ·replace c5 := Bool.eq_false_iff.mpr c5
   subst c5
   have H1 : (hebrew_Length.j0 k a0 a1 true) = some r := by rw [if_neg (show ¬ (false = true) by decide)] at H; exact H
   clear H
   have H := H1
   clear H1
   have H' := Aside0.mk H
   clear H
   go_wp2_with (first | ((with_reducible refine gate_callee (f := 100) rfl ?_); refine gm_ (some 7) Tryz.func100 #[.int .i64 a0] ?_; (with_reducible refine (hebrew_right.calls a0 false _ A4.out).mono ?_); rintro e w' ⟨rfl, ⟨nd, rfl⟩⟩; refine ⟨_, rfl, ?_⟩))
   go_meet
   case rel => exact ⟨_, (true), (by first | rfl | (simp; done) | (simp [*]; done)), H', ⟨by first | omega | exact Nat.le_refl _⟩, by repeat (first | exact Drawn0.refl _ | apply Drawn0.step)⟩
 case rest =>
  clear HC3
  try clear c1
  try clear p2
  try clear c5
  try clear c6
  try clear c6b0
  obtain ⟨kq, x18_2, rfl, HA, HJ2, ⟨mc2, rfl⟩⟩ := hcut
  cases kq with
  | zero => exact absurd HA.out (by simp [hebrew_Length.j0])
  | succ kj2 =>
   have H := HA.out
   clear HA
   simp only [hebrew_Length.j0] at H
   by_cases c8 : x18_2 = true
   ·subst c8
    have H1 : (some 0) = some r := by rw [if_pos rfl] at H; exact H
    clear H
    have H := H1
    clear H1
    obtain rfl := Option.some.inj H
    go_wp2
    go_ret
    exact ⟨by first | rfl | simp | simp [*] | simp [bne_nil_], by repeat (first | exact Drawn0.refl _ | apply Drawn0.step)⟩
   ·replace c8 := Bool.eq_false_iff.mpr c8
    subst c8
    have H1 : ((hebrew_days.f a0).bind fun t156 => (if a1 = 2 then (hebrew_Length.j1 kj2 a0 t156 a1 (a1 == 2)) else (if a1 = 4 then (hebrew_Length.j1 kj2 a0 t156 a1 (a1 == 4)) else (if a1 = 6 then (hebrew_Length.j1 kj2 a0 t156 a1 (a1 == 6)) else (if a1 = 10 then (hebrew_Length.j1 kj2 a0 t156 a1 (a1 == 10)) else (hebrew_Length.j1 kj2 a0 t156 a1 (a1 == 13))))))) = some r := by rw [if_neg (show ¬ (false = true) by decide)] at H; exact H
    clear H
    have H := H1
    clear H1
    replace H := Option.bind_eq_some_iff.mp H
    obtain ⟨t156, A90, H⟩ := H
    replace H : (if a1 = 2 then (hebrew_Length.j1 kj2 a0 t156 a1 (a1 == 2)) else (if a1 = 4 then (hebrew_Length.j1 kj2 a0 t156 a1 (a1 == 4)) else (if a1 = 6 then (hebrew_Length.j1 kj2 a0 t156 a1 (a1 == 6)) else (if a1 = 10 then (hebrew_Length.j1 kj2 a0 t156 a1 (a1 == 10)) else (hebrew_Length.j1 kj2 a0 t156 a1 (a1 == 13)))))) = some r := H
    have A9 := Aside0.mk A90
    clear A90
    have HC10 := Aside0.mk H
    clear H
    go_upto_if 22 with (first | ((with_reducible refine gate_callee (f := 102) rfl ?_); refine gm_ (some 20) Tryz.func102 #[.int .i64 a0] ?_; (with_reducible refine (hebrew_days.calls a0 t156 _ A9.out).mono ?_); rintro e w' ⟨rfl, ⟨nd, rfl⟩⟩; refine ⟨_, rfl, ?_⟩))
    (try simp only [Act.put, List.setIfInBounds_toArray, List.set_cons_zero, List.set_cons_succ])
    go_cut [22] (fun v22 wc => ∃ (kq : Nat) (x22_9 : Bool), v22 = .bool x22_9 ∧ Aside0 (hebrew_Length.j1 kq a0 t156 a1 x22_9 = some r) ∧ Aside0 (kq ≤ kj2) ∧ Drawn0 w wc)
    case first =>
     have H := HC10.out
     clear HC10
     by_cases c11 : a1 = 2
     ·rw [if_pos c11] at H
      have c11b0 : (a1 == 2) = true := beq_iff_eq.mpr c11
      have c11b1 : (a1 != 2) = false := bne_eq_false_iff_eq.mpr c11
      clear c11
      (first | rw [c11b0] | (simp only [i64_w, i32_w]; rw [c11b0]) | skip)
      have H' := Aside0.mk H
      clear H
      go_wp2
      go_meet
      case rel => exact ⟨_, ((a1 == 2)), (by first | rfl | (simp; done) | (simp [*]; done)), H', ⟨by have := HJ2.out; first | omega | exact Nat.le_refl _⟩, by repeat (first | exact Drawn0.refl _ | apply Drawn0.step)⟩
     ·rw [if_neg c11] at H
      have c11b0 : (a1 == 2) = false := beq_eq_false_iff_ne.mpr c11
      have c11b1 : (a1 != 2) = true := bne_iff_ne.mpr c11
      (first | rw [c11b0] | (simp only [i64_w, i32_w]; rw [c11b0]) | skip)
      by_cases c12 : a1 = 4
      ·rw [if_pos c12] at H
       have c12b0 : (a1 == 4) = true := beq_iff_eq.mpr c12
       have c12b1 : (a1 != 4) = false := bne_eq_false_iff_eq.mpr c12
       clear c12
       have H' := Aside0.mk H
       clear H
       go_wp2
       go_meet
       case rel => exact ⟨_, ((a1 == 4)), (by first | rfl | (simp; done) | (simp [*]; done)), H', ⟨by have := HJ2.out; first | omega | exact Nat.le_refl _⟩, by repeat (first | exact Drawn0.refl _ | apply Drawn0.step)⟩
      ·rw [if_neg c12] at H
       have c12b0 : (a1 == 4) = false := beq_eq_false_iff_ne.mpr c12
       have c12b1 : (a1 != 4) = true := bne_iff_ne.mpr c12
       by_cases c13 : a1 = 6
       ·rw [if_pos c13] at H
        have c13b0 : (a1 == 6) = true := beq_iff_eq.mpr c13
        have c13b1 : (a1 != 6) = false := bne_eq_false_iff_eq.mpr c13
        clear c13
        have H' := Aside0.mk H
        clear H
        go_wp2
        go_meet
        case rel => exact ⟨_, ((a1 == 6)), (by first | rfl | (simp; done) | (simp [*]; done)), H', ⟨by have := HJ2.out; first | omega | exact Nat.le_refl _⟩, by repeat (first | exact Drawn0.refl _ | apply Drawn0.step)⟩
       ·rw [if_neg c13] at H
        have c13b0 : (a1 == 6) = false := beq_eq_false_iff_ne.mpr c13
        have c13b1 : (a1 != 6) = true := bne_iff_ne.mpr c13
        by_cases c14 : a1 = 10
        ·rw [if_pos c14] at H
         have c14b0 : (a1 == 10) = true := beq_iff_eq.mpr c14
         have c14b1 : (a1 != 10) = false := bne_eq_false_iff_eq.mpr c14
         clear c14
         have H' := Aside0.mk H
         clear H
         go_wp2
         go_meet
         case rel => exact ⟨_, ((a1 == 10)), (by first | rfl | (simp; done) | (simp [*]; done)), H', ⟨by have := HJ2.out; first | omega | exact Nat.le_refl _⟩, by repeat (first | exact Drawn0.refl _ | apply Drawn0.step)⟩
        ·rw [if_neg c14] at H
         have c14b0 : (a1 == 10) = false := beq_eq_false_iff_ne.mpr c14
         have c14b1 : (a1 != 10) = true := bne_iff_ne.mpr c14
         have H' := Aside0.mk H
         clear H
         go_wp2
         go_meet
         case rel => exact ⟨_, ((a1 == 13)), (by first | rfl | (simp; done) | (simp [*]; done)), H', ⟨by have := HJ2.out; first | omega | exact Nat.le_refl _⟩, by repeat (first | exact Drawn0.refl _ | apply Drawn0.step)⟩
    case rest =>
     clear HC10
     try clear c1
     try clear c2
     try clear p2
     try clear c5
     try clear c6
     try clear c6b0
     try clear c8
     try clear c10
     try clear c11
     try clear c11b0
     try clear c11b1
     try clear c12
     try clear c12b0
     try clear c12b1
     try clear c13
     try clear c13b0
     try clear c13b1
     try clear c14
     try clear c14b0
     try clear c14b1
     try clear p2
     obtain ⟨kq, x22_9, rfl, HA, HJ9, ⟨mc9, rfl⟩⟩ := hcut
     cases kq with
     | zero => exact absurd HA.out (by simp [hebrew_Length.j1])
     | succ kj9 =>
      have H := HA.out
      clear HA
      simp only [hebrew_Length.j1] at H
      by_cases c15 : x22_9 = true
      ·subst c15
       have H1 : (some 29) = some r := by rw [if_pos rfl] at H; exact H
       clear H
       have H := H1
       clear H1
       obtain rfl := Option.some.inj H
       go_wp2
       go_ret
       exact ⟨by first | rfl | simp | simp [*] | simp [bne_nil_], by repeat (first | exact Drawn0.refl _ | apply Drawn0.step)⟩
      ·replace c15 := Bool.eq_false_iff.mpr c15
       subst c15
       have H1 : (if a1 = 12 then ((hebrew_leap.f a0).bind fun t157 => (if t157 = true then (some 30) else (some 29))) else (if a1 = 8 then (if t156 = 355 then (some 30) else (if t156 = 385 then (some 30) else (some 29))) else (if a1 = 9 then (if t156 = 353 then (some 29) else (if t156 = 383 then (some 29) else (some 30))) else (some 30)))) = some r := by rw [if_neg (show ¬ (false = true) by decide)] at H; exact H
       clear H
       have H := H1
       clear H1
       by_cases c16 : a1 = 12
       ·rw [if_pos c16] at H
        have c16b0 : (a1 == 12) = true := beq_iff_eq.mpr c16
        have c16b1 : (a1 != 12) = false := bne_eq_false_iff_eq.mpr c16
        clear c16
        replace H := Option.bind_eq_some_iff.mp H
        obtain ⟨t157, A170, H⟩ := H
        replace H : (if t157 = true then (some 30) else (some 29)) = some r := H
        have A17 := Aside0.mk A170
        clear A170
        by_cases c18 : t157 = true
        ·subst c18
         have H1 : (some 30) = some r := by rw [if_pos rfl] at H; exact H
         clear H
         have H := H1
         clear H1
         obtain rfl := Option.some.inj H
         go_wp2_with (first | ((with_reducible refine gate_callee (f := 103) rfl ?_); refine gm_ (some 31) Tryz.func103 #[.int .i64 a0] ?_; (with_reducible refine (hebrew_leap.calls a0 true _ A17.out).mono ?_); rintro e w' ⟨rfl, ⟨nd, rfl⟩⟩; refine ⟨_, rfl, ?_⟩))
         go_ret
         exact ⟨by first | rfl | simp | simp [*] | simp [bne_nil_], by repeat (first | exact Drawn0.refl _ | apply Drawn0.step)⟩
        ·replace c18 := Bool.eq_false_iff.mpr c18
         subst c18
         have H1 : (some 29) = some r := by rw [if_neg (show ¬ (false = true) by decide)] at H; exact H
         clear H
         have H := H1
         clear H1
         obtain rfl := Option.some.inj H
         go_wp2_with (first | ((with_reducible refine gate_callee (f := 103) rfl ?_); refine gm_ (some 31) Tryz.func103 #[.int .i64 a0] ?_; (with_reducible refine (hebrew_leap.calls a0 false _ A17.out).mono ?_); rintro e w' ⟨rfl, ⟨nd, rfl⟩⟩; refine ⟨_, rfl, ?_⟩))
         go_ret
         exact ⟨by first | rfl | simp | simp [*] | simp [bne_nil_], by repeat (first | exact Drawn0.refl _ | apply Drawn0.step)⟩
       ·rw [if_neg c16] at H
        have c16b0 : (a1 == 12) = false := beq_eq_false_iff_ne.mpr c16
        have c16b1 : (a1 != 12) = true := bne_iff_ne.mpr c16
        by_cases c19 : a1 = 8
        ·rw [if_pos c19] at H
         have c19b0 : (a1 == 8) = true := beq_iff_eq.mpr c19
         have c19b1 : (a1 != 8) = false := bne_eq_false_iff_eq.mpr c19
         clear c19
         by_cases c20 : t156 = 355
         ·rw [if_pos c20] at H
          have c20b0 : (t156 == 355) = true := beq_iff_eq.mpr c20
          have c20b1 : (t156 != 355) = false := bne_eq_false_iff_eq.mpr c20
          clear c20
          obtain rfl := Option.some.inj H
          go_wp2
          go_ret
          exact ⟨by first | rfl | simp | simp [*] | simp [bne_nil_], by repeat (first | exact Drawn0.refl _ | apply Drawn0.step)⟩
         ·rw [if_neg c20] at H
          have c20b0 : (t156 == 355) = false := beq_eq_false_iff_ne.mpr c20
          have c20b1 : (t156 != 355) = true := bne_iff_ne.mpr c20
          by_cases c21 : t156 = 385
          ·rw [if_pos c21] at H
           have c21b0 : (t156 == 385) = true := beq_iff_eq.mpr c21
           have c21b1 : (t156 != 385) = false := bne_eq_false_iff_eq.mpr c21
           clear c21
           obtain rfl := Option.some.inj H
           go_wp2
           go_ret
           exact ⟨by first | rfl | simp | simp [*] | simp [bne_nil_], by repeat (first | exact Drawn0.refl _ | apply Drawn0.step)⟩
          ·rw [if_neg c21] at H
           have c21b0 : (t156 == 385) = false := beq_eq_false_iff_ne.mpr c21
           have c21b1 : (t156 != 385) = true := bne_iff_ne.mpr c21
           obtain rfl := Option.some.inj H
           go_wp2
           go_ret
           exact ⟨by first | rfl | simp | simp [*] | simp [bne_nil_], by repeat (first | exact Drawn0.refl _ | apply Drawn0.step)⟩
        ·rw [if_neg c19] at H
         have c19b0 : (a1 == 8) = false := beq_eq_false_iff_ne.mpr c19
         have c19b1 : (a1 != 8) = true := bne_iff_ne.mpr c19
         by_cases c22 : a1 = 9
         ·rw [if_pos c22] at H
          have c22b0 : (a1 == 9) = true := beq_iff_eq.mpr c22
          have c22b1 : (a1 != 9) = false := bne_eq_false_iff_eq.mpr c22
          clear c22
          by_cases c23 : t156 = 353
          ·rw [if_pos c23] at H
           have c23b0 : (t156 == 353) = true := beq_iff_eq.mpr c23
           have c23b1 : (t156 != 353) = false := bne_eq_false_iff_eq.mpr c23
           clear c23
           obtain rfl := Option.some.inj H
           go_wp2
           go_ret
           exact ⟨by first | rfl | simp | simp [*] | simp [bne_nil_], by repeat (first | exact Drawn0.refl _ | apply Drawn0.step)⟩
          ·rw [if_neg c23] at H
           have c23b0 : (t156 == 353) = false := beq_eq_false_iff_ne.mpr c23
           have c23b1 : (t156 != 353) = true := bne_iff_ne.mpr c23
           by_cases c24 : t156 = 383
           ·rw [if_pos c24] at H
            have c24b0 : (t156 == 383) = true := beq_iff_eq.mpr c24
            have c24b1 : (t156 != 383) = false := bne_eq_false_iff_eq.mpr c24
            clear c24
            obtain rfl := Option.some.inj H
            go_wp2
            go_ret
            exact ⟨by first | rfl | simp | simp [*] | simp [bne_nil_], by repeat (first | exact Drawn0.refl _ | apply Drawn0.step)⟩
           ·rw [if_neg c24] at H
            have c24b0 : (t156 == 383) = false := beq_eq_false_iff_ne.mpr c24
            have c24b1 : (t156 != 383) = true := bne_iff_ne.mpr c24
            obtain rfl := Option.some.inj H
            go_wp2
            go_ret
            exact ⟨by first | rfl | simp | simp [*] | simp [bne_nil_], by repeat (first | exact Drawn0.refl _ | apply Drawn0.step)⟩
         ·rw [if_neg c22] at H
          have c22b0 : (a1 == 9) = false := beq_eq_false_iff_ne.mpr c22
          have c22b1 : (a1 != 9) = true := bne_iff_ne.mpr c22
          obtain rfl := Option.some.inj H
          go_wp2
          go_ret
          exact ⟨by first | rfl | simp | simp [*] | simp [bne_nil_], by repeat (first | exact Drawn0.refl _ | apply Drawn0.step)⟩

/-! ### hebrew_next: function 63 -/
def hebrew_next.f (a0 : Int) (a1 : Int) : Option (Int) := (hebrew_last.f a0).bind fun t158 => (if a1 = t158 then (some 1) else (some (wrap64 (a1 + 1))))
set_option maxHeartbeats 8000000 in
set_option maxRecDepth 100000 in
theorem hebrew_next.calls (a0 : Int) (a1 : Int) (r : Int) (w : World) (h : hebrew_next.f a0 a1 = some r) :
  Calls Tryz.prog 63 #[.int .i64 a0, .int .i64 a1] w fun e w' => e = .returned (.int .i64 r) ∧ Drawn0 w w' := by
 have H : ((hebrew_last.f a0).bind fun t158 => (if a1 = t158 then (some 1) else (some (wrap64 (a1 + 1))))) = some r := h
 clear h
 replace H := Option.bind_eq_some_iff.mp H
 obtain ⟨t158, A30, H⟩ := H
 replace H : (if a1 = t158 then (some 1) else (some (wrap64 (a1 + 1)))) = some r := H
 have A3 := Aside0.mk A30
 clear A30
 by_cases c4 : a1 = t158
 ·rw [if_pos c4] at H
  have c4b0 : (a1 == t158) = true := beq_iff_eq.mpr c4
  have c4b1 : (a1 != t158) = false := bne_eq_false_iff_eq.mpr c4
  clear c4
  obtain rfl := Option.some.inj H
  go_enter Tryz.func63, Tryz.ntmps63
  go_wp2_with (first | ((with_reducible refine gate_callee (f := 101) rfl ?_); refine gm_ (some 7) Tryz.func101 #[.int .i64 a0] ?_; (with_reducible refine (hebrew_last.calls a0 t158 _ A3.out).mono ?_); rintro e w' ⟨rfl, ⟨nd, rfl⟩⟩; refine ⟨_, rfl, ?_⟩))
  go_ret
  exact ⟨by first | rfl | simp | simp [*] | simp [bne_nil_], by repeat (first | exact Drawn0.refl _ | apply Drawn0.step)⟩
 ·rw [if_neg c4] at H
  have c4b0 : (a1 == t158) = false := beq_eq_false_iff_ne.mpr c4
  have c4b1 : (a1 != t158) = true := bne_iff_ne.mpr c4
  obtain rfl := Option.some.inj H
  go_enter Tryz.func63, Tryz.ntmps63
  go_wp2_with (first | ((with_reducible refine gate_callee (f := 101) rfl ?_); refine gm_ (some 7) Tryz.func101 #[.int .i64 a0] ?_; (with_reducible refine (hebrew_last.calls a0 t158 _ A3.out).mono ?_); rintro e w' ⟨rfl, ⟨nd, rfl⟩⟩; refine ⟨_, rfl, ?_⟩))
  go_ret
  exact ⟨by first | rfl | simp | simp [*] | simp [bne_nil_], by repeat (first | exact Drawn0.refl _ | apply Drawn0.step)⟩

/-! ### hebrew_FromHebrew: function 27 -/
mutual
def hebrew_FromHebrew.j0 : Nat → Bool → Int → Int → Int → Option (Int × Int)
 | 0, _, _, _, _ => none
 | k + 1, x18, x267000, x267001, x267002 => if x18 = true then (some (0, 2)) else ((hebrew_begins.f x267000).bind fun t268 => (hebrew_FromHebrew.l0 k (wrap64 ((wrap64 (t268 + x267002)) - 1)) 7 x267000 x267001 x267002))
def hebrew_FromHebrew.l0 : Nat → Int → Int → Int → Int → Int → Option (Int × Int)
 | 0, _, _, _, _, _ => none
 | k + 1, x4, x5, x267000, x267001, x267002 => if x5 = x267001 then ((rata_Of.f x4).bind fun t269 => (if t269 = true then (some (x4, 0)) else (some (0, 2)))) else ((hebrew_Length.f k x267000 x5).bind fun t270 => ((hebrew_next.f x267000 x5).bind fun t271 => (hebrew_FromHebrew.l0 k (wrap64 (x4 + t270)) t271 x267000 x267001 x267002)))
end
def hebrew_FromHebrew.f (k : Nat) (a0_0 : Int) (a0_1 : Int) (a0_2 : Int) : Option (Int × Int) := if a0_2 < 1 then (hebrew_FromHebrew.j0 k true a0_0 a0_1 a0_2) else ((hebrew_Length.f k a0_0 a0_1).bind fun t267 => (hebrew_FromHebrew.j0 k (decide (a0_2 > t267)) a0_0 a0_1 a0_2))
set_option maxHeartbeats 8000000 in
set_option maxRecDepth 100000 in
theorem hebrew_FromHebrew.calls (k : Nat) (a0_0 : Int) (a0_1 : Int) (a0_2 : Int) (r1 : Int) (r2 : Int) (w : World) (h : hebrew_FromHebrew.f k a0_0 a0_1 a0_2 = some (r1, r2)) :
  Calls Tryz.prog 27 #[.agg #[.int .i64 a0_0, .int .i64 a0_1, .int .i64 a0_2]] w fun e w' => e = .returned (.tuple #[.int .i64 r1, .int .i64 r2]) ∧ Below w.heap.size w w' := by
 have hu41 := Tryz.underlying41
 have HB := Aside0.mk (Below.refl w.heap.size w)
 have H : (if a0_2 < 1 then (hebrew_FromHebrew.j0 k true a0_0 a0_1 a0_2) else ((hebrew_Length.f k a0_0 a0_1).bind fun t267 => (hebrew_FromHebrew.j0 k (decide (a0_2 > t267)) a0_0 a0_1 a0_2))) = some (r1, r2) := h
 clear h
 have HC2 := Aside0.mk H
 clear H
 go_enter Tryz.func27, Tryz.ntmps27
 go_upto_region 1 with (first | ((with_reducible refine gate_dst (N := 1) rfl ?_); refine box_event ?hg (N := 1) ?hd (cs := #[.int .i64 a0_0, .int .i64 a0_1, .int .i64 a0_2]) (t := 41) ?hr ?_; (case hd => rfl); (case hg => rfl); (case hr => first | (go_simp; done) | (go_simp; rfl)); intro gb266 hg w3 hbox hb; have n0_ := Aside0.mk (below_step (by repeat (first | (with_reducible first | exact HB.out | apply below_alloc | apply pw_below_drewN | apply below_drew1) | exact HB.out)) hb); have n1_ := Aside0.mk (hbox); have n2_ := Aside0.mk ((by rw [hg]; exact (below_size (by repeat (first | (with_reducible first | exact HB.out | apply below_alloc | apply pw_below_drewN | apply below_drew1) | exact HB.out))) : w.heap.size ≤ gb266)); have n3_ := Aside0.mk ((by rw [hg]; exact (below_size (by repeat (first | (with_reducible first | exact HB.out | apply below_alloc | apply pw_below_drewN | apply below_drew1) | exact HB.out))) : w.heap.size ≤ gb266)); clear HB; have HB := n0_; have BK266 := n1_; have GW266 := n2_; have GE266 := n3_; clear n0_ n1_ n2_ n3_; clear hb hbox hg))
 repeat (go_quiet (first | ((with_reducible refine gate_dst (N := 1) rfl ?_); refine box_event ?hg (N := 1) ?hd (cs := #[.int .i64 a0_0, .int .i64 a0_1, .int .i64 a0_2]) (t := 41) ?hr ?_; (case hd => rfl); (case hg => rfl); (case hr => first | (go_simp; done) | (go_simp; rfl)); intro gb266 hg w3 hbox hb; have n0_ := Aside0.mk (below_step (by repeat (first | (with_reducible first | exact HB.out | apply below_alloc | apply pw_below_drewN | apply below_drew1) | exact HB.out)) hb); have n1_ := Aside0.mk (hbox); have n2_ := Aside0.mk ((by rw [hg]; exact (below_size (by repeat (first | (with_reducible first | exact HB.out | apply below_alloc | apply pw_below_drewN | apply below_drew1) | exact HB.out))) : w.heap.size ≤ gb266)); have n3_ := Aside0.mk ((by rw [hg]; exact (below_size (by repeat (first | (with_reducible first | exact HB.out | apply below_alloc | apply pw_below_drewN | apply below_drew1) | exact HB.out))) : w.heap.size ≤ gb266)); clear HB; have HB := n0_; have BK266 := n1_; have GW266 := n2_; have GE266 := n3_; clear n0_ n1_ n2_ n3_; clear hb hbox hg)); go_upto_region 1 with (first | ((with_reducible refine gate_dst (N := 1) rfl ?_); refine box_event ?hg (N := 1) ?hd (cs := #[.int .i64 a0_0, .int .i64 a0_1, .int .i64 a0_2]) (t := 41) ?hr ?_; (case hd => rfl); (case hg => rfl); (case hr => first | (go_simp; done) | (go_simp; rfl)); intro gb266 hg w3 hbox hb; have n0_ := Aside0.mk (below_step (by repeat (first | (with_reducible first | exact HB.out | apply below_alloc | apply pw_below_drewN | apply below_drew1) | exact HB.out)) hb); have n1_ := Aside0.mk (hbox); have n2_ := Aside0.mk ((by rw [hg]; exact (below_size (by repeat (first | (with_reducible first | exact HB.out | apply below_alloc | apply pw_below_drewN | apply below_drew1) | exact HB.out))) : w.heap.size ≤ gb266)); have n3_ := Aside0.mk ((by rw [hg]; exact (below_size (by repeat (first | (with_reducible first | exact HB.out | apply below_alloc | apply pw_below_drewN | apply below_drew1) | exact HB.out))) : w.heap.size ≤ gb266)); clear HB; have HB := n0_; have BK266 := n1_; have GW266 := n2_; have GE266 := n3_; clear n0_ n1_ n2_ n3_; clear hb hbox hg)))
 (try simp only [Act.put, List.setIfInBounds_toArray, List.set_cons_zero, List.set_cons_succ])
 go_cut [18] (fun v18 wc => ∃ (kq : Nat) (x18_1 : Bool), v18 = .bool x18_1 ∧ Aside0 (hebrew_FromHebrew.j0 kq x18_1 a0_0 a0_1 a0_2 = some (r1, r2)) ∧ Aside0 (kq ≤ k) ∧ Aside0 (wc.heap[gb266]? = some (.cells #[.int .i64 a0_0, .int .i64 a0_1, .int .i64 a0_2] 41 (0, 0))) ∧ Aside0 (Below w.heap.size w wc))
 case first =>
  have H := HC2.out
  clear HC2
  by_cases c4 : a0_2 < 1
  ·rw [if_pos c4] at H
   have c4b0 : decide (a0_2 < 1) = true := decide_eq_true c4
   clear c4
   (first | rw [c4b0] | (simp only [i64_w, i32_w]; rw [c4b0]) | skip)
   have H' := Aside0.mk H
   clear H
   have hcz5_0 : w3.cell? ⟨gb266, 0, none⟩ = some (.int .i64 a0_0) := (blk_cell BK266.out 0).trans rfl
   have hcz5_1 : w3.cell? ⟨gb266, 1, none⟩ = some (.int .i64 a0_1) := (blk_cell BK266.out 1).trans rfl
   have hcz5_2 : w3.cell? ⟨gb266, 2, none⟩ = some (.int .i64 a0_2) := (blk_cell BK266.out 2).trans rfl
   have hfz5_0 := blk_frozen BK266.out 0
   have hfz5_1 := blk_frozen BK266.out 1
   have hfz5_2 := blk_frozen BK266.out 2
   go_wp2
   repeat (go_quiet (fail); try go_wp2)
   go_meet
   case rel => exact ⟨_, (true), (by first | rfl | (simp; done) | (simp [*]; done)), H', ⟨by first | omega | exact Nat.le_refl _⟩, ⟨by (with_reducible repeat (first | refine blk_drewN ?_ _ | refine blk_drew ?_ | refine blk_alloc ?_ _)); exact BK266.out⟩, ⟨by repeat (first | (with_reducible first | exact HB.out | apply below_alloc | apply pw_below_drewN | apply below_drew1 | refine below_set ?_ GE266.out) | exact HB.out)⟩⟩
  ·rw [if_neg c4] at H
   have c4b0 : decide (a0_2 < 1) = false := decide_eq_false c4
   clear c4
   (first | rw [c4b0] | (simp only [i64_w, i32_w]; rw [c4b0]) | skip)
   replace H := Option.bind_eq_some_iff.mp H
   obtain ⟨t267, A60, H⟩ := H
   replace H : (hebrew_FromHebrew.j0 k (decide (a0_2 > t267)) a0_0 a0_1 a0_2) = some (r1, r2) := H
   have A6 := Aside0.mk A60
   clear A60
   have H' := Aside0.mk H
   clear H
   have hcz7_0 : w3.cell? ⟨gb266, 0, none⟩ = some (.int .i64 a0_0) := (blk_cell BK266.out 0).trans rfl
   have hcz7_1 : w3.cell? ⟨gb266, 1, none⟩ = some (.int .i64 a0_1) := (blk_cell BK266.out 1).trans rfl
   have hcz7_2 : w3.cell? ⟨gb266, 2, none⟩ = some (.int .i64 a0_2) := (blk_cell BK266.out 2).trans rfl
   have hfz7_0 := blk_frozen BK266.out 0
   have hfz7_1 := blk_frozen BK266.out 1
   have hfz7_2 := blk_frozen BK266.out 2
   go_wp2_with (first | (go_at_call 61; (with_reducible refine (hebrew_Length.calls k a0_0 a0_1 t267 _ A6.out).mono ?_); rintro e w' ⟨rfl, ⟨nd, rfl⟩⟩; (try first | exact ⟨rfl, _, World.drewN_drewN _ _ _⟩ | exact ⟨rfl, _, Eq.trans (World.drewN_drewN _ _ _) (congrArg (World.drewN _) (Nat.add_assoc _ _ _))⟩)))
   repeat (go_quiet (first | (go_at_call 61; (with_reducible refine (hebrew_Length.calls k a0_0 a0_1 t267 _ A6.out).mono ?_); rintro e w' ⟨rfl, ⟨nd, rfl⟩⟩; (try first | exact ⟨rfl, _, World.drewN_drewN _ _ _⟩ | exact ⟨rfl, _, Eq.trans (World.drewN_drewN _ _ _) (congrArg (World.drewN _) (Nat.add_assoc _ _ _))⟩))); try go_wp2_with (first | (go_at_call 61; (with_reducible refine (hebrew_Length.calls k a0_0 a0_1 t267 _ A6.out).mono ?_); rintro e w' ⟨rfl, ⟨nd, rfl⟩⟩; (try first | exact ⟨rfl, _, World.drewN_drewN _ _ _⟩ | exact ⟨rfl, _, Eq.trans (World.drewN_drewN _ _ _) (congrArg (World.drewN _) (Nat.add_assoc _ _ _))⟩))))
   go_meet
   case rel => exact ⟨_, (decide (a0_2 > t267)), (by first | rfl | (simp; done) | (simp [*]; done)), H', ⟨by first | omega | exact Nat.le_refl _⟩, ⟨by (with_reducible repeat (first | refine blk_drewN ?_ _ | refine blk_drew ?_ | refine blk_alloc ?_ _)); exact BK266.out⟩, ⟨by repeat (first | (with_reducible first | exact HB.out | apply below_alloc | apply pw_below_drewN | apply below_drew1 | refine below_set ?_ GE266.out) | exact HB.out)⟩⟩
 case rest =>
  clear HC2
  try clear c2
  try clear p2
  try clear c4
  try clear c4b0
  try clear hcz5_0
  try clear hcz5_1
  try clear hcz5_2
  try clear hcz7_0
  try clear hcz7_1
  try clear hcz7_2
  try clear hfz5_0
  try clear hfz5_1
  try clear hfz5_2
  try clear hfz7_0
  try clear hfz7_1
  try clear hfz7_2
  obtain ⟨kq, x18_1, rfl, HA, HJ1, BK266, HB⟩ := hcut
  cases kq with
  | zero => exact absurd HA.out (by simp [hebrew_FromHebrew.j0])
  | succ kj1 =>
   have H := HA.out
   clear HA
   simp only [hebrew_FromHebrew.j0] at H
   by_cases c8 : x18_1 = true
   ·subst c8
    have H1 : (some (0, 2)) = some (r1, r2) := by rw [if_pos rfl] at H; exact H
    clear H
    have H := H1
    clear H1
    simp only [Option.some.injEq, Prod.mk.injEq] at H
    obtain ⟨rfl, rfl⟩ := H
    go_wp2
    repeat (go_quiet (fail); try go_wp2)
    go_ret2
    exact ⟨by first | rfl | (simp [*, errW_none, errW_some] <;> rfl), by repeat (first | (with_reducible first | exact HB.out | apply below_alloc | apply pw_below_drewN | apply below_drew1 | refine below_set ?_ GE266.out) | exact HB.out)⟩
   ·replace c8 := Bool.eq_false_iff.mpr c8
    subst c8
    have H1 : ((hebrew_begins.f a0_0).bind fun t268 => (hebrew_FromHebrew.l0 kj1 (wrap64 ((wrap64 (t268 + a0_2)) - 1)) 7 a0_0 a0_1 a0_2)) = some (r1, r2) := by rw [if_neg (show ¬ (false = true) by decide)] at H; exact H
    clear H
    have H := H1
    clear H1
    replace H := Option.bind_eq_some_iff.mp H
    obtain ⟨t268, A90, H⟩ := H
    replace H : (hebrew_FromHebrew.l0 kj1 (wrap64 ((wrap64 (t268 + a0_2)) - 1)) 7 a0_0 a0_1 a0_2) = some (r1, r2) := H
    have A9 := Aside0.mk A90
    clear A90
    have H' := Aside0.mk H
    clear H
    have hcz10_0 : wc.cell? ⟨gb266, 0, none⟩ = some (.int .i64 a0_0) := (blk_cell BK266.out 0).trans rfl
    have hcz10_1 : wc.cell? ⟨gb266, 1, none⟩ = some (.int .i64 a0_1) := (blk_cell BK266.out 1).trans rfl
    have hcz10_2 : wc.cell? ⟨gb266, 2, none⟩ = some (.int .i64 a0_2) := (blk_cell BK266.out 2).trans rfl
    have hfz10_0 := blk_frozen BK266.out 0
    have hfz10_1 := blk_frozen BK266.out 1
    have hfz10_2 := blk_frozen BK266.out 2
    go_wp2_with (first | (go_at_call 62; (with_reducible refine (hebrew_begins.calls a0_0 t268 _ A9.out).mono ?_); rintro e w' ⟨rfl, ⟨nd, rfl⟩⟩; (try first | exact ⟨rfl, _, World.drewN_drewN _ _ _⟩ | exact ⟨rfl, _, Eq.trans (World.drewN_drewN _ _ _) (congrArg (World.drewN _) (Nat.add_assoc _ _ _))⟩)))
    repeat (go_quiet (first | (go_at_call 62; (with_reducible refine (hebrew_begins.calls a0_0 t268 _ A9.out).mono ?_); rintro e w' ⟨rfl, ⟨nd, rfl⟩⟩; (try first | exact ⟨rfl, _, World.drewN_drewN _ _ _⟩ | exact ⟨rfl, _, Eq.trans (World.drewN_drewN _ _ _) (congrArg (World.drewN _) (Nat.add_assoc _ _ _))⟩))); try go_wp2_with (first | (go_at_call 62; (with_reducible refine (hebrew_begins.calls a0_0 t268 _ A9.out).mono ?_); rintro e w' ⟨rfl, ⟨nd, rfl⟩⟩; (try first | exact ⟨rfl, _, World.drewN_drewN _ _ _⟩ | exact ⟨rfl, _, Eq.trans (World.drewN_drewN _ _ _) (congrArg (World.drewN _) (Nat.add_assoc _ _ _))⟩))))
    go_loopg [4, 5] kj1 (fun kq v4 v5 w' => ∃ (x4_2 : Int) (x5_2 : Int), v4 = .int .i64 x4_2 ∧ v5 = .int .i64 x5_2 ∧ Aside0 (hebrew_FromHebrew.l0 kq x4_2 x5_2 a0_0 a0_1 a0_2 = some (r1, r2)) ∧ Aside0 (kq ≤ kj1) ∧ Aside0 (w'.heap[gb266]? = some (.cells #[.int .i64 a0_0, .int .i64 a0_1, .int .i64 a0_2] 41 (0, 0))) ∧ Aside0 (Below w.heap.size w w'))
    case atStart => exact ⟨(wrap64 ((wrap64 (t268 + a0_2)) - 1)), (7), (by first | rfl | (simp; done) | (simp [*]; done)), (by first | rfl | (simp; done) | (simp [*]; done)), H', ⟨Nat.le_refl _⟩, ⟨by (with_reducible repeat (first | refine blk_drewN ?_ _ | refine blk_drew ?_ | refine blk_alloc ?_ _)); exact BK266.out⟩, ⟨by repeat (first | (with_reducible first | exact HB.out | apply below_alloc | apply pw_below_drewN | apply below_drew1 | refine below_set ?_ GE266.out) | exact HB.out)⟩⟩
    case round =>
     clear H'
     try clear c2
     try clear p2
     try clear c4
     try clear c4b0
     try clear p6
     try clear c8
     try clear hcz10_0
     try clear hcz10_1
     try clear hcz10_2
     try clear hcz5_0
     try clear hcz5_1
     try clear hcz5_2
     try clear hcz7_0
     try clear hcz7_1
     try clear hcz7_2
     try clear hfz10_0
     try clear hfz10_1
     try clear hfz10_2
     try clear hfz5_0
     try clear hfz5_1
     try clear hfz5_2
     try clear hfz7_0
     try clear hfz7_1
     try clear hfz7_2
     try clear p2
     obtain ⟨x4_2, x5_2, rfl, rfl, HA, HK2, BK266, HB⟩ := hrel
     cases gk with
     | zero => exact absurd HA.out (by simp [hebrew_FromHebrew.l0])
     | succ k2 =>
      have H := HA.out
      clear HA
      simp only [hebrew_FromHebrew.l0] at H
      by_cases c11 : x5_2 = a0_1
      ·rw [if_pos c11] at H
       have c11b0 : (x5_2 == a0_1) = true := beq_iff_eq.mpr c11
       have c11b1 : (x5_2 != a0_1) = false := bne_eq_false_iff_eq.mpr c11
       clear c11
       replace H := Option.bind_eq_some_iff.mp H
       obtain ⟨t269, A120, H⟩ := H
       replace H : (if t269 = true then (some (x4_2, 0)) else (some (0, 2))) = some (r1, r2) := H
       have A12 := Aside0.mk A120
       clear A120
       by_cases c13 : t269 = true
       ·subst c13
        have H1 : (some (x4_2, 0)) = some (r1, r2) := by rw [if_pos rfl] at H; exact H
        clear H
        have H := H1
        clear H1
        simp only [Option.some.injEq, Prod.mk.injEq] at H
        obtain ⟨rfl, rfl⟩ := H
        have hcz14_0 : wr.cell? ⟨gb266, 0, none⟩ = some (.int .i64 a0_0) := (blk_cell BK266.out 0).trans rfl
        have hcz14_1 : wr.cell? ⟨gb266, 1, none⟩ = some (.int .i64 a0_1) := (blk_cell BK266.out 1).trans rfl
        have hcz14_2 : wr.cell? ⟨gb266, 2, none⟩ = some (.int .i64 a0_2) := (blk_cell BK266.out 2).trans rfl
        have hfz14_0 := blk_frozen BK266.out 0
        have hfz14_1 := blk_frozen BK266.out 1
        have hfz14_2 := blk_frozen BK266.out 2
        go_wp2_with (first | (go_at_call 60; (with_reducible refine (rata_Of.calls x4_2 true _ A12.out).mono ?_); rintro e w' ⟨rfl, ⟨nd, rfl⟩⟩; (try first | exact ⟨rfl, _, World.drewN_drewN _ _ _⟩ | exact ⟨rfl, _, Eq.trans (World.drewN_drewN _ _ _) (congrArg (World.drewN _) (Nat.add_assoc _ _ _))⟩)))
        repeat (go_quiet (first | (go_at_call 60; (with_reducible refine (rata_Of.calls x4_2 true _ A12.out).mono ?_); rintro e w' ⟨rfl, ⟨nd, rfl⟩⟩; (try first | exact ⟨rfl, _, World.drewN_drewN _ _ _⟩ | exact ⟨rfl, _, Eq.trans (World.drewN_drewN _ _ _) (congrArg (World.drewN _) (Nat.add_assoc _ _ _))⟩))); try go_wp2_with (first | (go_at_call 60; (with_reducible refine (rata_Of.calls x4_2 true _ A12.out).mono ?_); rintro e w' ⟨rfl, ⟨nd, rfl⟩⟩; (try first | exact ⟨rfl, _, World.drewN_drewN _ _ _⟩ | exact ⟨rfl, _, Eq.trans (World.drewN_drewN _ _ _) (congrArg (World.drewN _) (Nat.add_assoc _ _ _))⟩))))
        go_ret2
        exact ⟨by first | rfl | (simp [*, errW_none, errW_some] <;> rfl), by repeat (first | (with_reducible first | exact HB.out | apply below_alloc | apply pw_below_drewN | apply below_drew1 | refine below_set ?_ GE266.out) | exact HB.out)⟩
       ·replace c13 := Bool.eq_false_iff.mpr c13
        subst c13
        have H1 : (some (0, 2)) = some (r1, r2) := by rw [if_neg (show ¬ (false = true) by decide)] at H; exact H
        clear H
        have H := H1
        clear H1
        simp only [Option.some.injEq, Prod.mk.injEq] at H
        obtain ⟨rfl, rfl⟩ := H
        have hcz15_0 : wr.cell? ⟨gb266, 0, none⟩ = some (.int .i64 a0_0) := (blk_cell BK266.out 0).trans rfl
        have hcz15_1 : wr.cell? ⟨gb266, 1, none⟩ = some (.int .i64 a0_1) := (blk_cell BK266.out 1).trans rfl
        have hcz15_2 : wr.cell? ⟨gb266, 2, none⟩ = some (.int .i64 a0_2) := (blk_cell BK266.out 2).trans rfl
        have hfz15_0 := blk_frozen BK266.out 0
        have hfz15_1 := blk_frozen BK266.out 1
        have hfz15_2 := blk_frozen BK266.out 2
        go_wp2_with (first | (go_at_call 60; (with_reducible refine (rata_Of.calls x4_2 false _ A12.out).mono ?_); rintro e w' ⟨rfl, ⟨nd, rfl⟩⟩; (try first | exact ⟨rfl, _, World.drewN_drewN _ _ _⟩ | exact ⟨rfl, _, Eq.trans (World.drewN_drewN _ _ _) (congrArg (World.drewN _) (Nat.add_assoc _ _ _))⟩)))
        repeat (go_quiet (first | (go_at_call 60; (with_reducible refine (rata_Of.calls x4_2 false _ A12.out).mono ?_); rintro e w' ⟨rfl, ⟨nd, rfl⟩⟩; (try first | exact ⟨rfl, _, World.drewN_drewN _ _ _⟩ | exact ⟨rfl, _, Eq.trans (World.drewN_drewN _ _ _) (congrArg (World.drewN _) (Nat.add_assoc _ _ _))⟩))); try go_wp2_with (first | (go_at_call 60; (with_reducible refine (rata_Of.calls x4_2 false _ A12.out).mono ?_); rintro e w' ⟨rfl, ⟨nd, rfl⟩⟩; (try first | exact ⟨rfl, _, World.drewN_drewN _ _ _⟩ | exact ⟨rfl, _, Eq.trans (World.drewN_drewN _ _ _) (congrArg (World.drewN _) (Nat.add_assoc _ _ _))⟩))))
        go_ret2
        exact ⟨by first | rfl | (simp [*, errW_none, errW_some] <;> rfl), by repeat (first | (with_reducible first | exact HB.out | apply below_alloc | apply pw_below_drewN | apply below_drew1 | refine below_set ?_ GE266.out) | exact HB.out)⟩
      ·rw [if_neg c11] at H
       have c11b0 : (x5_2 == a0_1) = false := beq_eq_false_iff_ne.mpr c11
       have c11b1 : (x5_2 != a0_1) = true := bne_iff_ne.mpr c11
       replace H := Option.bind_eq_some_iff.mp H
       obtain ⟨t270, A160, H⟩ := H
       replace H : ((hebrew_next.f a0_0 x5_2).bind fun t271 => (hebrew_FromHebrew.l0 k2 (wrap64 (x4_2 + t270)) t271 a0_0 a0_1 a0_2)) = some (r1, r2) := H
       have A16 := Aside0.mk A160
       clear A160
       replace H := Option.bind_eq_some_iff.mp H
       obtain ⟨t271, A170, H⟩ := H
       replace H : (hebrew_FromHebrew.l0 k2 (wrap64 (x4_2 + t270)) t271 a0_0 a0_1 a0_2) = some (r1, r2) := H
       have A17 := Aside0.mk A170
       clear A170
       have H' := Aside0.mk H
       clear H
       have hcz18_0 : wr.cell? ⟨gb266, 0, none⟩ = some (.int .i64 a0_0) := (blk_cell BK266.out 0).trans rfl
       have hcz18_1 : wr.cell? ⟨gb266, 1, none⟩ = some (.int .i64 a0_1) := (blk_cell BK266.out 1).trans rfl
       have hcz18_2 : wr.cell? ⟨gb266, 2, none⟩ = some (.int .i64 a0_2) := (blk_cell BK266.out 2).trans rfl
       have hfz18_0 := blk_frozen BK266.out 0
       have hfz18_1 := blk_frozen BK266.out 1
       have hfz18_2 := blk_frozen BK266.out 2
       go_wp2_with (first | (go_at_call 61; (with_reducible refine (hebrew_Length.calls k2 a0_0 x5_2 t270 _ A16.out).mono ?_); rintro e w' ⟨rfl, ⟨nd, rfl⟩⟩; (try first | exact ⟨rfl, _, World.drewN_drewN _ _ _⟩ | exact ⟨rfl, _, Eq.trans (World.drewN_drewN _ _ _) (congrArg (World.drewN _) (Nat.add_assoc _ _ _))⟩)) | (go_at_call 63; (with_reducible refine (hebrew_next.calls a0_0 x5_2 t271 _ A17.out).mono ?_); rintro e w' ⟨rfl, ⟨nd, rfl⟩⟩; (try first | exact ⟨rfl, _, World.drewN_drewN _ _ _⟩ | exact ⟨rfl, _, Eq.trans (World.drewN_drewN _ _ _) (congrArg (World.drewN _) (Nat.add_assoc _ _ _))⟩)))
       repeat (go_quiet (first | (go_at_call 61; (with_reducible refine (hebrew_Length.calls k2 a0_0 x5_2 t270 _ A16.out).mono ?_); rintro e w' ⟨rfl, ⟨nd, rfl⟩⟩; (try first | exact ⟨rfl, _, World.drewN_drewN _ _ _⟩ | exact ⟨rfl, _, Eq.trans (World.drewN_drewN _ _ _) (congrArg (World.drewN _) (Nat.add_assoc _ _ _))⟩)) | (go_at_call 63; (with_reducible refine (hebrew_next.calls a0_0 x5_2 t271 _ A17.out).mono ?_); rintro e w' ⟨rfl, ⟨nd, rfl⟩⟩; (try first | exact ⟨rfl, _, World.drewN_drewN _ _ _⟩ | exact ⟨rfl, _, Eq.trans (World.drewN_drewN _ _ _) (congrArg (World.drewN _) (Nat.add_assoc _ _ _))⟩))); try go_wp2_with (first | (go_at_call 61; (with_reducible refine (hebrew_Length.calls k2 a0_0 x5_2 t270 _ A16.out).mono ?_); rintro e w' ⟨rfl, ⟨nd, rfl⟩⟩; (try first | exact ⟨rfl, _, World.drewN_drewN _ _ _⟩ | exact ⟨rfl, _, Eq.trans (World.drewN_drewN _ _ _) (congrArg (World.drewN _) (Nat.add_assoc _ _ _))⟩)) | (go_at_call 63; (with_reducible refine (hebrew_next.calls a0_0 x5_2 t271 _ A17.out).mono ?_); rintro e w' ⟨rfl, ⟨nd, rfl⟩⟩; (try first | exact ⟨rfl, _, World.drewN_drewN _ _ _⟩ | exact ⟨rfl, _, Eq.trans (World.drewN_drewN _ _ _) (congrArg (World.drewN _) (Nat.add_assoc _ _ _))⟩))))
       go_roundg k2
       case measure => have := HJ1.out; have := HK2.out; omega
       case rel => exact ⟨(wrap64 (x4_2 + t270)), (t271), (by first | rfl | (simp; done) | (simp [*]; done)), (by first | rfl | (simp; done) | (simp [*]; done)), H', ⟨by have := HJ1.out; have := HK2.out; omega⟩, ⟨by (with_reducible repeat (first | refine blk_drewN ?_ _ | refine blk_drew ?_ | refine blk_alloc ?_ _)); exact BK266.out⟩, ⟨by repeat (first | (with_reducible first | exact HB.out | apply below_alloc | apply pw_below_drewN | apply below_drew1 | refine below_set ?_ GE266.out) | exact HB.out)⟩⟩

end Go.Proofs.YtgbbgcepcnklkaaGreatDoor.Q
