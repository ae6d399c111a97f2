/- Texts of this claim, merged: Qheb. -/
import Derived.Test.YtgbbgcepcnklkaaDoorMgShowLines1
-- written by a program of this session (wip/own_print.sh)
namespace Go.Proofs.YtgbbgcepcnklkaaDoor.Q
open Go.RowKit Go.Proofs.YtgbbgcepcnklkaaDoorW.PrintWords Go.Proofs.YtgbbgcepcnklkaaDoorW.PrintLast Go.Proofs.YtgbbgcepcnklkaaDoorW.PrintMore
attribute [local go_sem] max2_int min2_int max_two min_two
set_option linter.unusedVariables false
set_option linter.unusedSimpArgs false
/-! ### hebrew_elapsed: function 90 -/
def hebrew_elapsed.f (a0 : Int) : Option (Int) := (rata_Floor.f (wrap64 ((wrap64 (235 * a0)) - 234)) 19).bind fun t142 => ((rata_Floor.f (wrap64 (12084 + (wrap64 (13753 * t142)))) 25920).bind fun t143 => ((rata_Mod.f (wrap64 (3 * (wrap64 ((wrap64 ((wrap64 (29 * t142)) + t143)) + 1)))) 7).bind fun t144 => (if t144 < 3 then (some (wrap64 ((wrap64 ((wrap64 (29 * t142)) + t143)) + 1))) else (some (wrap64 ((wrap64 (29 * t142)) + t143))))))
set_option maxHeartbeats 8000000 in
set_option maxRecDepth 100000 in
theorem hebrew_elapsed.calls (a0 : Int) (r : Int) (w : World) (h : hebrew_elapsed.f a0 = some r) :
  Calls Tryd.prog 90 #[.int .i64 a0] w fun e w' => e = .returned (.int .i64 r) ∧ Drawn0 w w' := by
 have H : ((rata_Floor.f (wrap64 ((wrap64 (235 * a0)) - 234)) 19).bind fun t142 => ((rata_Floor.f (wrap64 (12084 + (wrap64 (13753 * t142)))) 25920).bind fun t143 => ((rata_Mod.f (wrap64 (3 * (wrap64 ((wrap64 ((wrap64 (29 * t142)) + t143)) + 1)))) 7).bind fun t144 => (if t144 < 3 then (some (wrap64 ((wrap64 ((wrap64 (29 * t142)) + t143)) + 1))) else (some (wrap64 ((wrap64 (29 * t142)) + t143))))))) = some r := h
 clear h
 replace H := Option.bind_eq_some_iff.mp H
 obtain ⟨t142, A20, H⟩ := H
 replace H : ((rata_Floor.f (wrap64 (12084 + (wrap64 (13753 * t142)))) 25920).bind fun t143 => ((rata_Mod.f (wrap64 (3 * (wrap64 ((wrap64 ((wrap64 (29 * t142)) + t143)) + 1)))) 7).bind fun t144 => (if t144 < 3 then (some (wrap64 ((wrap64 ((wrap64 (29 * t142)) + t143)) + 1))) else (some (wrap64 ((wrap64 (29 * t142)) + t143)))))) = some r := H
 have A2 := Aside0.mk A20
 clear A20
 replace H := Option.bind_eq_some_iff.mp H
 obtain ⟨t143, A30, H⟩ := H
 replace H : ((rata_Mod.f (wrap64 (3 * (wrap64 ((wrap64 ((wrap64 (29 * t142)) + t143)) + 1)))) 7).bind fun t144 => (if t144 < 3 then (some (wrap64 ((wrap64 ((wrap64 (29 * t142)) + t143)) + 1))) else (some (wrap64 ((wrap64 (29 * t142)) + t143))))) = some r := H
 have A3 := Aside0.mk A30
 clear A30
 replace H := Option.bind_eq_some_iff.mp H
 obtain ⟨t144, A40, H⟩ := H
 replace H : (if t144 < 3 then (some (wrap64 ((wrap64 ((wrap64 (29 * t142)) + t143)) + 1))) else (some (wrap64 ((wrap64 (29 * t142)) + t143)))) = some r := H
 have A4 := Aside0.mk A40
 clear A40
 by_cases c5 : t144 < 3
 ·rw [if_pos c5] at H
  have c5b0 : decide (t144 < 3) = true := decide_eq_true c5
  clear c5
  obtain rfl := Option.some.inj H
  go_enter Tryd.func90, Tryd.ntmps90
  go_wp2_with (first | ((with_reducible refine gate_callee (f := 53) rfl ?_); refine goesL_ (some 9) rfl rfl Tryd.func53 (by kernel_rfl) rfl #[.int .i64 (wrap64 ((wrap64 (235 * a0)) - 234)), .int .i64 19] rfl (by (try simp only [List.map_toArray, List.map_cons, List.map_nil]); first | done | rfl | (simp only [List.length_drop, List.length_take]; rfl)) ?_; (with_reducible refine (rata_Floor.calls (wrap64 ((wrap64 (235 * a0)) - 234)) 19 t142 _ A2.out).mono ?_); rintro e w' ⟨rfl, ⟨nd, rfl⟩⟩; refine ⟨_, rfl, ?_⟩) | ((with_reducible refine gate_callee (f := 53) rfl ?_); refine goesL_ (some 16) rfl rfl Tryd.func53 (by kernel_rfl) rfl #[.int .i64 (wrap64 (12084 + (wrap64 (13753 * t142)))), .int .i64 25920] rfl (by (try simp only [List.map_toArray, List.map_cons, List.map_nil]); first | done | rfl | (simp only [List.length_drop, List.length_take]; rfl)) ?_; (with_reducible refine (rata_Floor.calls (wrap64 (12084 + (wrap64 (13753 * t142)))) 25920 t143 _ A3.out).mono ?_); rintro e w' ⟨rfl, ⟨nd, rfl⟩⟩; refine ⟨_, rfl, ?_⟩) | ((with_reducible refine gate_callee (f := 57) rfl ?_); refine goesL_ (some 21) rfl rfl Tryd.func57 (by kernel_rfl) rfl #[.int .i64 (wrap64 (3 * (wrap64 ((wrap64 ((wrap64 (29 * t142)) + t143)) + 1)))), .int .i64 7] rfl (by (try simp only [List.map_toArray, List.map_cons, List.map_nil]); first | done | rfl | (simp only [List.length_drop, List.length_take]; rfl)) ?_; (with_reducible refine (rata_Mod.calls (wrap64 (3 * (wrap64 ((wrap64 ((wrap64 (29 * t142)) + t143)) + 1)))) 7 t144 _ A4.out).mono ?_); rintro e w' ⟨rfl, ⟨nd, rfl⟩⟩; refine ⟨_, rfl, ?_⟩))
  go_ret
  exact ⟨by first | rfl | (simp; done) | (simp [*]; done) | (simp [bne_nil_]; done), by repeat (first | exact Drawn0.refl _ | apply Drawn0.step)⟩
 ·rw [if_neg c5] at H
  have c5b0 : decide (t144 < 3) = false := decide_eq_false c5
  clear c5
  obtain rfl := Option.some.inj H
  go_enter Tryd.func90, Tryd.ntmps90
  go_wp2_with (first | ((with_reducible refine gate_callee (f := 53) rfl ?_); refine goesL_ (some 9) rfl rfl Tryd.func53 (by kernel_rfl) rfl #[.int .i64 (wrap64 ((wrap64 (235 * a0)) - 234)), .int .i64 19] rfl (by (try simp only [List.map_toArray, List.map_cons, List.map_nil]); first | done | rfl | (simp only [List.length_drop, List.length_take]; rfl)) ?_; (with_reducible refine (rata_Floor.calls (wrap64 ((wrap64 (235 * a0)) - 234)) 19 t142 _ A2.out).mono ?_); rintro e w' ⟨rfl, ⟨nd, rfl⟩⟩; refine ⟨_, rfl, ?_⟩) | ((with_reducible refine gate_callee (f := 53) rfl ?_); refine goesL_ (some 16) rfl rfl Tryd.func53 (by kernel_rfl) rfl #[.int .i64 (wrap64 (12084 + (wrap64 (13753 * t142)))), .int .i64 25920] rfl (by (try simp only [List.map_toArray, List.map_cons, List.map_nil]); first | done | rfl | (simp only [List.length_drop, List.length_take]; rfl)) ?_; (with_reducible refine (rata_Floor.calls (wrap64 (12084 + (wrap64 (13753 * t142)))) 25920 t143 _ A3.out).mono ?_); rintro e w' ⟨rfl, ⟨nd, rfl⟩⟩; refine ⟨_, rfl, ?_⟩) | ((with_reducible refine gate_callee (f := 57) rfl ?_); refine goesL_ (some 21) rfl rfl Tryd.func57 (by kernel_rfl) rfl #[.int .i64 (wrap64 (3 * (wrap64 ((wrap64 ((wrap64 (29 * t142)) + t143)) + 1)))), .int .i64 7] rfl (by (try simp only [List.map_toArray, List.map_cons, List.map_nil]); first | done | rfl | (simp only [List.length_drop, List.length_take]; rfl)) ?_; (with_reducible refine (rata_Mod.calls (wrap64 (3 * (wrap64 ((wrap64 ((wrap64 (29 * t142)) + t143)) + 1)))) 7 t144 _ A4.out).mono ?_); rintro e w' ⟨rfl, ⟨nd, rfl⟩⟩; refine ⟨_, rfl, ?_⟩))
  go_ret
  exact ⟨by first | rfl | (simp; done) | (simp [*]; done) | (simp [bne_nil_]; done), by repeat (first | exact Drawn0.refl _ | apply Drawn0.step)⟩

/-! ### hebrew_delay: function 91 -/
def hebrew_delay.f (a0 : Int) : Option (Int) := (hebrew_elapsed.f a0).bind fun t145 => ((hebrew_elapsed.f (wrap64 (a0 + 1))).bind fun t146 => (if (wrap64 (t146 - t145)) = 356 then (some 2) else ((hebrew_elapsed.f (wrap64 (a0 - 1))).bind fun t147 => (if (wrap64 (t145 - t147)) = 382 then (some 1) else (some 0)))))
set_option maxHeartbeats 8000000 in
set_option maxRecDepth 100000 in
theorem hebrew_delay.calls (a0 : Int) (r : Int) (w : World) (h : hebrew_delay.f a0 = some r) :
  Calls Tryd.prog 91 #[.int .i64 a0] w fun e w' => e = .returned (.int .i64 r) ∧ Drawn0 w w' := by
 have H : ((hebrew_elapsed.f a0).bind fun t145 => ((hebrew_elapsed.f (wrap64 (a0 + 1))).bind fun t146 => (if (wrap64 (t146 - t145)) = 356 then (some 2) else ((hebrew_elapsed.f (wrap64 (a0 - 1))).bind fun t147 => (if (wrap64 (t145 - t147)) = 382 then (some 1) else (some 0)))))) = some r := h
 clear h
 replace H := Option.bind_eq_some_iff.mp H
 obtain ⟨t145, A20, H⟩ := H
 replace H : ((hebrew_elapsed.f (wrap64 (a0 + 1))).bind fun t146 => (if (wrap64 (t146 - t145)) = 356 then (some 2) else ((hebrew_elapsed.f (wrap64 (a0 - 1))).bind fun t147 => (if (wrap64 (t145 - t147)) = 382 then (some 1) else (some 0))))) = some r := H
 have A2 := Aside0.mk A20
 clear A20
 replace H := Option.bind_eq_some_iff.mp H
 obtain ⟨t146, A30, H⟩ := H
 replace H : (if (wrap64 (t146 - t145)) = 356 then (some 2) else ((hebrew_elapsed.f (wrap64 (a0 - 1))).bind fun t147 => (if (wrap64 (t145 - t147)) = 382 then (some 1) else (some 0)))) = some r := H
 have A3 := Aside0.mk A30
 clear A30
 by_cases c4 : (wrap64 (t146 - t145)) = 356
 ·rw [if_pos c4] at H
  have c4b0 : ((wrap64 (t146 - t145)) == 356) = true := beq_iff_eq.mpr c4
  have c4b1 : ((wrap64 (t146 - t145)) != 356) = false := bne_eq_false_iff_eq.mpr c4
  clear c4
  obtain rfl := Option.some.inj H
  go_enter Tryd.func91, Tryd.ntmps91
  go_wp2_with (first | ((with_reducible refine gate_callee (f := 90) rfl ?_); refine goesL_ (some 5) rfl rfl Tryd.func90 (by kernel_rfl) rfl #[.int .i64 a0] rfl (by (try simp only [List.map_toArray, List.map_cons, List.map_nil]); first | done | rfl | (simp only [List.length_drop, List.length_take]; rfl)) ?_; (with_reducible refine (hebrew_elapsed.calls a0 t145 _ A2.out).mono ?_); rintro e w' ⟨rfl, ⟨nd, rfl⟩⟩; refine ⟨_, rfl, ?_⟩) | ((with_reducible refine gate_callee (f := 90) rfl ?_); refine goesL_ (some 9) rfl rfl Tryd.func90 (by kernel_rfl) rfl #[.int .i64 (wrap64 (a0 + 1))] rfl (by (try simp only [List.map_toArray, List.map_cons, List.map_nil]); first | done | rfl | (simp only [List.length_drop, List.length_take]; rfl)) ?_; (with_reducible refine (hebrew_elapsed.calls (wrap64 (a0 + 1)) t146 _ A3.out).mono ?_); rintro e w' ⟨rfl, ⟨nd, rfl⟩⟩; refine ⟨_, rfl, ?_⟩))
  go_ret
  exact ⟨by first | rfl | (simp; done) | (simp [*]; done) | (simp [bne_nil_]; done), by repeat (first | exact Drawn0.refl _ | apply Drawn0.step)⟩
 ·rw [if_neg c4] at H
  have c4b0 : ((wrap64 (t146 - t145)) == 356) = false := beq_eq_false_iff_ne.mpr c4
  have c4b1 : ((wrap64 (t146 - t145)) != 356) = true := bne_iff_ne.mpr c4
  replace H := Option.bind_eq_some_iff.mp H
  obtain ⟨t147, A50, H⟩ := H
  replace H : (if (wrap64 (t145 - t147)) = 382 then (some 1) else (some 0)) = some r := H
  have A5 := Aside0.mk A50
  clear A50
  by_cases c6 : (wrap64 (t145 - t147)) = 382
  ·rw [if_pos c6] at H
   have c6b0 : ((wrap64 (t145 - t147)) == 382) = true := beq_iff_eq.mpr c6
   have c6b1 : ((wrap64 (t145 - t147)) != 382) = false := bne_eq_false_iff_eq.mpr c6
   clear c6
   obtain rfl := Option.some.inj H
   go_enter Tryd.func91, Tryd.ntmps91
   go_wp2_with (first | ((with_reducible refine gate_callee (f := 90) rfl ?_); refine goesL_ (some 5) rfl rfl Tryd.func90 (by kernel_rfl) rfl #[.int .i64 a0] rfl (by (try simp only [List.map_toArray, List.map_cons, List.map_nil]); first | done | rfl | (simp only [List.length_drop, List.length_take]; rfl)) ?_; (with_reducible refine (hebrew_elapsed.calls a0 t145 _ A2.out).mono ?_); rintro e w' ⟨rfl, ⟨nd, rfl⟩⟩; refine ⟨_, rfl, ?_⟩) | ((with_reducible refine gate_callee (f := 90) rfl ?_); refine goesL_ (some 9) rfl rfl Tryd.func90 (by kernel_rfl) rfl #[.int .i64 (wrap64 (a0 + 1))] rfl (by (try simp only [List.map_toArray, List.map_cons, List.map_nil]); first | done | rfl | (simp only [List.length_drop, List.length_take]; rfl)) ?_; (with_reducible refine (hebrew_elapsed.calls (wrap64 (a0 + 1)) t146 _ A3.out).mono ?_); rintro e w' ⟨rfl, ⟨nd, rfl⟩⟩; refine ⟨_, rfl, ?_⟩) | ((with_reducible refine gate_callee (f := 90) rfl ?_); refine goesL_ (some 17) rfl rfl Tryd.func90 (by kernel_rfl) rfl #[.int .i64 (wrap64 (a0 - 1))] rfl (by (try simp only [List.map_toArray, List.map_cons, List.map_nil]); first | done | rfl | (simp only [List.length_drop, List.length_take]; rfl)) ?_; (with_reducible refine (hebrew_elapsed.calls (wrap64 (a0 - 1)) t147 _ A5.out).mono ?_); rintro e w' ⟨rfl, ⟨nd, rfl⟩⟩; refine ⟨_, rfl, ?_⟩))
   go_ret
   exact ⟨by first | rfl | (simp; done) | (simp [*]; done) | (simp [bne_nil_]; done), by repeat (first | exact Drawn0.refl _ | apply Drawn0.step)⟩
  ·rw [if_neg c6] at H
   have c6b0 : ((wrap64 (t145 - t147)) == 382) = false := beq_eq_false_iff_ne.mpr c6
   have c6b1 : ((wrap64 (t145 - t147)) != 382) = true := bne_iff_ne.mpr c6
   obtain rfl := Option.some.inj H
   go_enter Tryd.func91, Tryd.ntmps91
   go_wp2_with (first | ((with_reducible refine gate_callee (f := 90) rfl ?_); refine goesL_ (some 5) rfl rfl Tryd.func90 (by kernel_rfl) rfl #[.int .i64 a0] rfl (by (try simp only [List.map_toArray, List.map_cons, List.map_nil]); first | done | rfl | (simp only [List.length_drop, List.length_take]; rfl)) ?_; (with_reducible refine (hebrew_elapsed.calls a0 t145 _ A2.out).mono ?_); rintro e w' ⟨rfl, ⟨nd, rfl⟩⟩; refine ⟨_, rfl, ?_⟩) | ((with_reducible refine gate_callee (f := 90) rfl ?_); refine goesL_ (some 9) rfl rfl Tryd.func90 (by kernel_rfl) rfl #[.int .i64 (wrap64 (a0 + 1))] rfl (by (try simp only [List.map_toArray, List.map_cons, List.map_nil]); first | done | rfl | (simp only [List.length_drop, List.length_take]; rfl)) ?_; (with_reducible refine (hebrew_elapsed.calls (wrap64 (a0 + 1)) t146 _ A3.out).mono ?_); rintro e w' ⟨rfl, ⟨nd, rfl⟩⟩; refine ⟨_, rfl, ?_⟩) | ((with_reducible refine gate_callee (f := 90) rfl ?_); refine goesL_ (some 17) rfl rfl Tryd.func90 (by kernel_rfl) rfl #[.int .i64 (wrap64 (a0 - 1))] rfl (by (try simp only [List.map_toArray, List.map_cons, List.map_nil]); first | done | rfl | (simp only [List.length_drop, List.length_take]; rfl)) ?_; (with_reducible refine (hebrew_elapsed.calls (wrap64 (a0 - 1)) t147 _ A5.out).mono ?_); rintro e w' ⟨rfl, ⟨nd, rfl⟩⟩; refine ⟨_, rfl, ?_⟩))
   go_ret
   exact ⟨by first | rfl | (simp; done) | (simp [*]; done) | (simp [bne_nil_]; done), by repeat (first | exact Drawn0.refl _ | apply Drawn0.step)⟩

/-! ### hebrew_begins: function 59 -/
def hebrew_begins.f (a0 : Int) : Option (Int) := (hebrew_elapsed.f a0).bind fun t148 => ((hebrew_delay.f a0).bind fun t149 => (some (wrap64 ((wrap64 ((-1373427) + t148)) + t149))))
set_option maxHeartbeats 8000000 in
set_option maxRecDepth 100000 in
theorem hebrew_begins.calls (a0 : Int) (r : Int) (w : World) (h : hebrew_begins.f a0 = some r) :
  Calls Tryd.prog 59 #[.int .i64 a0] w fun e w' => e = .returned (.int .i64 r) ∧ Drawn0 w w' := by
 have H : ((hebrew_elapsed.f a0).bind fun t148 => ((hebrew_delay.f a0).bind fun t149 => (some (wrap64 ((wrap64 ((-1373427) + t148)) + t149))))) = some r := h
 clear h
 replace H := Option.bind_eq_some_iff.mp H
 obtain ⟨t148, A20, H⟩ := H
 replace H : ((hebrew_delay.f a0).bind fun t149 => (some (wrap64 ((wrap64 ((-1373427) + t148)) + t149)))) = some r := H
 have A2 := Aside0.mk A20
 clear A20
 replace H := Option.bind_eq_some_iff.mp H
 obtain ⟨t149, A30, H⟩ := H
 replace H : (some (wrap64 ((wrap64 ((-1373427) + t148)) + t149))) = some r := H
 have A3 := Aside0.mk A30
 clear A30
 obtain rfl := Option.some.inj H
 go_enter Tryd.func59, Tryd.ntmps59
 go_wp2_with (first | ((with_reducible refine gate_callee (f := 90) rfl ?_); refine goesL_ (some 4) rfl rfl Tryd.func90 (by kernel_rfl) rfl #[.int .i64 a0] rfl (by (try simp only [List.map_toArray, List.map_cons, List.map_nil]); first | done | rfl | (simp only [List.length_drop, List.length_take]; rfl)) ?_; (with_reducible refine (hebrew_elapsed.calls a0 t148 _ A2.out).mono ?_); rintro e w' ⟨rfl, ⟨nd, rfl⟩⟩; refine ⟨_, rfl, ?_⟩) | ((with_reducible refine gate_callee (f := 91) rfl ?_); refine goesL_ (some 7) rfl rfl Tryd.func91 (by kernel_rfl) rfl #[.int .i64 a0] rfl (by (try simp only [List.map_toArray, List.map_cons, List.map_nil]); first | done | rfl | (simp only [List.length_drop, List.length_take]; rfl)) ?_; (with_reducible refine (hebrew_delay.calls a0 t149 _ A3.out).mono ?_); rintro e w' ⟨rfl, ⟨nd, rfl⟩⟩; refine ⟨_, rfl, ?_⟩))
 go_ret
 exact ⟨by first | rfl | (simp; done) | (simp [*]; done) | (simp [bne_nil_]; done), by repeat (first | exact Drawn0.refl _ | apply Drawn0.step)⟩

/-! ### hebrew_right: function 92 -/
def hebrew_right.f (a0 : Int) : Option (Bool) := if a0 ≥ 1 then (some (decide (a0 ≤ 20000))) else (some false)
set_option maxHeartbeats 8000000 in
set_option maxRecDepth 100000 in
theorem hebrew_right.calls (a0 : Int) (r : Bool) (w : World) (h : hebrew_right.f a0 = some r) :
  Calls Tryd.prog 92 #[.int .i64 a0] w fun e w' => e = .returned (.bool r) ∧ Drawn0 w w' := by
 have H : (if a0 ≥ 1 then (some (decide (a0 ≤ 20000))) else (some false)) = some r := h
 clear h
 by_cases c2 : a0 ≥ 1
 ·rw [if_pos c2] at H
  have c2b0 : decide (1 ≤ a0) = true := decide_eq_true c2
  clear c2
  obtain rfl := Option.some.inj H
  go_enter Tryd.func92, Tryd.ntmps92
  go_wp2
  go_ret
  exact ⟨by first | rfl | (simp; done) | (simp [*]; done) | (simp [bne_nil_]; done), by repeat (first | exact Drawn0.refl _ | apply Drawn0.step)⟩
 ·rw [if_neg c2] at H
  have c2b0 : decide (1 ≤ a0) = false := decide_eq_false c2
  clear c2
  obtain rfl := Option.some.inj H
  go_enter Tryd.func92, Tryd.ntmps92
  go_wp2
  go_ret
  exact ⟨by first | rfl | (simp; done) | (simp [*]; done) | (simp [bne_nil_]; done), by repeat (first | exact Drawn0.refl _ | apply Drawn0.step)⟩

/-! ### hebrew_leap: function 95 -/
def hebrew_leap.f (a0 : Int) : Option (Bool) := (rata_Mod.f (wrap64 ((wrap64 (7 * a0)) + 1)) 19).bind fun t150 => (some (decide (t150 < 7)))
set_option maxHeartbeats 8000000 in
set_option maxRecDepth 100000 in
theorem hebrew_leap.calls (a0 : Int) (r : Bool) (w : World) (h : hebrew_leap.f a0 = some r) :
  Calls Tryd.prog 95 #[.int .i64 a0] w fun e w' => e = .returned (.bool r) ∧ Drawn0 w w' := by
 have H : ((rata_Mod.f (wrap64 ((wrap64 (7 * a0)) + 1)) 19).bind fun t150 => (some (decide (t150 < 7)))) = some r := h
 clear h
 replace H := Option.bind_eq_some_iff.mp H
 obtain ⟨t150, A20, H⟩ := H
 replace H : (some (decide (t150 < 7))) = some r := H
 have A2 := Aside0.mk A20
 clear A20
 obtain rfl := Option.some.inj H
 go_enter Tryd.func95, Tryd.ntmps95
 go_wp2_with (first | ((with_reducible refine gate_callee (f := 57) rfl ?_); refine goesL_ (some 6) rfl rfl Tryd.func57 (by kernel_rfl) rfl #[.int .i64 (wrap64 ((wrap64 (7 * a0)) + 1)), .int .i64 19] rfl (by (try simp only [List.map_toArray, List.map_cons, List.map_nil]); first | done | rfl | (simp only [List.length_drop, List.length_take]; rfl)) ?_; (with_reducible refine (rata_Mod.calls (wrap64 ((wrap64 (7 * a0)) + 1)) 19 t150 _ A2.out).mono ?_); rintro e w' ⟨rfl, ⟨nd, rfl⟩⟩; refine ⟨_, rfl, ?_⟩))
 go_ret
 exact ⟨by first | rfl | (simp; done) | (simp [*]; done) | (simp [bne_nil_]; done), by repeat (first | exact Drawn0.refl _ | apply Drawn0.step)⟩

/-! ### hebrew_last: function 93 -/
def hebrew_last.f (a0 : Int) : Option (Int) := (hebrew_leap.f a0).bind fun t151 => (if t151 = true then (some 13) else (some 12))
set_option maxHeartbeats 8000000 in
set_option maxRecDepth 100000 in
theorem hebrew_last.calls (a0 : Int) (r : Int) (w : World) (h : hebrew_last.f a0 = some r) :
  Calls Tryd.prog 93 #[.int .i64 a0] w fun e w' => e = .returned (.int .i64 r) ∧ Drawn0 w w' := by
 have H : ((hebrew_leap.f a0).bind fun t151 => (if t151 = true then (some 13) else (some 12))) = some r := h
 clear h
 replace H := Option.bind_eq_some_iff.mp H
 obtain ⟨t151, A20, H⟩ := H
 replace H : (if t151 = true then (some 13) else (some 12)) = some r := H
 have A2 := Aside0.mk A20
 clear A20
 by_cases c3 : t151 = true
 ·subst c3
  have H1 : (some 13) = some r := by rw [if_pos rfl] at H; exact H
  clear H
  have H := H1
  clear H1
  obtain rfl := Option.some.inj H
  go_enter Tryd.func93, Tryd.ntmps93
  go_wp2_with (first | ((with_reducible refine gate_callee (f := 95) rfl ?_); refine goesL_ (some 4) rfl rfl Tryd.func95 (by kernel_rfl) rfl #[.int .i64 a0] rfl (by (try simp only [List.map_toArray, List.map_cons, List.map_nil]); first | done | rfl | (simp only [List.length_drop, List.length_take]; rfl)) ?_; (with_reducible refine (hebrew_leap.calls a0 true _ A2.out).mono ?_); rintro e w' ⟨rfl, ⟨nd, rfl⟩⟩; refine ⟨_, rfl, ?_⟩))
  go_ret
  exact ⟨by first | rfl | (simp; done) | (simp [*]; done) | (simp [bne_nil_]; done), by repeat (first | exact Drawn0.refl _ | apply Drawn0.step)⟩
 ·replace c3 := Bool.eq_false_iff.mpr c3
  subst c3
  have H1 : (some 12) = some r := by rw [if_neg (show ¬ (false = true) by decide)] at H; exact H
  clear H
  have H := H1
  clear H1
  obtain rfl := Option.some.inj H
  go_enter Tryd.func93, Tryd.ntmps93
  go_wp2_with (first | ((with_reducible refine gate_callee (f := 95) rfl ?_); refine goesL_ (some 4) rfl rfl Tryd.func95 (by kernel_rfl) rfl #[.int .i64 a0] rfl (by (try simp only [List.map_toArray, List.map_cons, List.map_nil]); first | done | rfl | (simp only [List.length_drop, List.length_take]; rfl)) ?_; (with_reducible refine (hebrew_leap.calls a0 false _ A2.out).mono ?_); rintro e w' ⟨rfl, ⟨nd, rfl⟩⟩; refine ⟨_, rfl, ?_⟩))
  go_ret
  exact ⟨by first | rfl | (simp; done) | (simp [*]; done) | (simp [bne_nil_]; done), by repeat (first | exact Drawn0.refl _ | apply Drawn0.step)⟩

/-! ### hebrew_days: function 94 -/
def hebrew_days.f (a0 : Int) : Option (Int) := (hebrew_begins.f (wrap64 (a0 + 1))).bind fun t152 => ((hebrew_begins.f a0).bind fun t153 => (some (wrap64 (t152 - t153))))
set_option maxHeartbeats 8000000 in
set_option maxRecDepth 100000 in
theorem hebrew_days.calls (a0 : Int) (r : Int) (w : World) (h : hebrew_days.f a0 = some r) :
  Calls Tryd.prog 94 #[.int .i64 a0] w fun e w' => e = .returned (.int .i64 r) ∧ Drawn0 w w' := by
 have H : ((hebrew_begins.f (wrap64 (a0 + 1))).bind fun t152 => ((hebrew_begins.f a0).bind fun t153 => (some (wrap64 (t152 - t153))))) = some r := h
 clear h
 replace H := Option.bind_eq_some_iff.mp H
 obtain ⟨t152, A20, H⟩ := H
 replace H : ((hebrew_begins.f a0).bind fun t153 => (some (wrap64 (t152 - t153)))) = some r := H
 have A2 := Aside0.mk A20
 clear A20
 replace H := Option.bind_eq_some_iff.mp H
 obtain ⟨t153, A30, H⟩ := H
 replace H : (some (wrap64 (t152 - t153))) = some r := H
 have A3 := Aside0.mk A30
 clear A30
 obtain rfl := Option.some.inj H
 go_enter Tryd.func94, Tryd.ntmps94
 go_wp2_with (first | ((with_reducible refine gate_callee (f := 59) rfl ?_); refine goesL_ (some 5) rfl rfl Tryd.func59 (by kernel_rfl) rfl #[.int .i64 (wrap64 (a0 + 1))] rfl (by (try simp only [List.map_toArray, List.map_cons, List.map_nil]); first | done | rfl | (simp only [List.length_drop, List.length_take]; rfl)) ?_; (with_reducible refine (hebrew_begins.calls (wrap64 (a0 + 1)) t152 _ A2.out).mono ?_); rintro e w' ⟨rfl, ⟨nd, rfl⟩⟩; refine ⟨_, rfl, ?_⟩) | ((with_reducible refine gate_callee (f := 59) rfl ?_); refine goesL_ (some 7) rfl rfl Tryd.func59 (by kernel_rfl) rfl #[.int .i64 a0] rfl (by (try simp only [List.map_toArray, List.map_cons, List.map_nil]); first | done | rfl | (simp only [List.length_drop, List.length_take]; rfl)) ?_; (with_reducible refine (hebrew_begins.calls a0 t153 _ A3.out).mono ?_); rintro e w' ⟨rfl, ⟨nd, rfl⟩⟩; refine ⟨_, rfl, ?_⟩))
 go_ret
 exact ⟨by first | rfl | (simp; done) | (simp [*]; done) | (simp [bne_nil_]; done), by repeat (first | exact Drawn0.refl _ | apply Drawn0.step)⟩

/-! ### hebrew_Length: function 60 -/
mutual
def hebrew_Length.j0 : Nat → Int → Int → Bool → Option (Int)
 | 0, _, _, _ => none
 | k + 1, x0, x1, x18 => if x18 = true then (some 0) else ((hebrew_days.f x0).bind fun t156 => (if x1 = 2 then (hebrew_Length.j1 k x0 t156 x1 (x1 == 2)) else (if x1 = 4 then (hebrew_Length.j1 k x0 t156 x1 (x1 == 4)) else (if x1 = 6 then (hebrew_Length.j1 k x0 t156 x1 (x1 == 6)) else (if x1 = 10 then (hebrew_Length.j1 k x0 t156 x1 (x1 == 10)) else (hebrew_Length.j1 k x0 t156 x1 (x1 == 13)))))))
def hebrew_Length.j1 : Nat → Int → Int → Int → Bool → Option (Int)
 | 0, _, _, _, _ => none
 | k + 1, x0, x5, x21, x22 => if x22 = true then (some 29) else (if x21 = 12 then ((hebrew_leap.f x0).bind fun t157 => (if t157 = true then (some 30) else (some 29))) else (if x21 = 8 then (if x5 = 355 then (some 30) else (if x5 = 385 then (some 30) else (some 29))) else (if x21 = 9 then (if x5 = 353 then (some 29) else (if x5 = 383 then (some 29) else (some 30))) else (some 30))))
end
def hebrew_Length.f (k : Nat) (a0 : Int) (a1 : Int) : Option (Int) := (hebrew_right.f a0).bind fun t154 => (if t154 = true then (if a1 < 1 then (hebrew_Length.j0 k a0 a1 true) else ((hebrew_last.f a0).bind fun t155 => (hebrew_Length.j0 k a0 a1 (decide (a1 > t155))))) else (hebrew_Length.j0 k a0 a1 true))
set_option maxHeartbeats 8000000 in
set_option maxRecDepth 100000 in
theorem hebrew_Length.calls (k : Nat) (a0 : Int) (a1 : Int) (r : Int) (w : World) (h : hebrew_Length.f k a0 a1 = some r) :
  Calls Tryd.prog 60 #[.int .i64 a0, .int .i64 a1] w fun e w' => e = .returned (.int .i64 r) ∧ Drawn0 w w' := by
 have H : ((hebrew_right.f a0).bind fun t154 => (if t154 = true then (if a1 < 1 then (hebrew_Length.j0 k a0 a1 true) else ((hebrew_last.f a0).bind fun t155 => (hebrew_Length.j0 k a0 a1 (decide (a1 > t155))))) else (hebrew_Length.j0 k a0 a1 true))) = some r := h
 clear h
 have HC3 := Aside0.mk H
 clear H
 go_enter Tryd.func60, Tryd.ntmps60
 go_upto_region 1 with (fail)
 go_cut [18] (fun v18 wc => ∃ (kq : Nat) (x18_2 : Bool), v18 = .bool x18_2 ∧ Aside0 (hebrew_Length.j0 kq a0 a1 x18_2 = some r) ∧ Aside0 (kq ≤ k) ∧ Drawn0 w wc)
 case first =>
  have H := HC3.out
  clear HC3
  replace H := Option.bind_eq_some_iff.mp H
  obtain ⟨t154, A40, H⟩ := H
  replace H : (if t154 = true then (if a1 < 1 then (hebrew_Length.j0 k a0 a1 true) else ((hebrew_last.f a0).bind fun t155 => (hebrew_Length.j0 k a0 a1 (decide (a1 > t155))))) else (hebrew_Length.j0 k a0 a1 true)) = some r := H
  have A4 := Aside0.mk A40
  clear A40
  by_cases c5 : t154 = true
  ·subst c5
   have H1 : (if a1 < 1 then (hebrew_Length.j0 k a0 a1 true) else ((hebrew_last.f a0).bind fun t155 => (hebrew_Length.j0 k a0 a1 (decide (a1 > t155))))) = some r := by rw [if_pos rfl] at H; exact H
   clear H
   have H := H1
   clear H1
   by_cases c6 : a1 < 1
   ·rw [if_pos c6] at H
    have c6b0 : decide (a1 < 1) = true := decide_eq_true c6
    clear c6
    (first | rw [c6b0] | (simp only [i64_w, i32_w]; rw [c6b0]) | skip)
    have H' := Aside0.mk H
    clear H
    go_wp2_with (first | ((with_reducible refine gate_callee (f := 92) rfl ?_); refine goesL_ (some 7) rfl rfl Tryd.func92 (by kernel_rfl) rfl #[.int .i64 a0] rfl (by (try simp only [List.map_toArray, List.map_cons, List.map_nil]); first | done | rfl | (simp only [List.length_drop, List.length_take]; rfl)) ?_; (with_reducible refine (hebrew_right.calls a0 true _ A4.out).mono ?_); rintro e w' ⟨rfl, ⟨nd, rfl⟩⟩; refine ⟨_, rfl, ?_⟩))
    go_meet
    case rel => exact ⟨_, (true), (by first | rfl | (simp; done) | (simp [*]; done)), H', ⟨by first | omega | exact Nat.le_refl _⟩, by repeat (first | exact Drawn0.refl _ | apply Drawn0.step)⟩
   ·rw [if_neg c6] at H
    have c6b0 : decide (a1 < 1) = false := decide_eq_false c6
    clear c6
    (first | rw [c6b0] | (simp only [i64_w, i32_w]; rw [c6b0]) | skip)
    replace H := Option.bind_eq_some_iff.mp H
    obtain ⟨t155, A70, H⟩ := H
    replace H : (hebrew_Length.j0 k a0 a1 (decide (a1 > t155))) = some r := H
    have A7 := Aside0.mk A70
    clear A70
    have H' := Aside0.mk H
    clear H
    go_wp2_with (first | ((with_reducible refine gate_callee (f := 92) rfl ?_); refine goesL_ (some 7) rfl rfl Tryd.func92 (by kernel_rfl) rfl #[.int .i64 a0] rfl (by (try simp only [List.map_toArray, List.map_cons, List.map_nil]); first | done | rfl | (simp only [List.length_drop, List.length_take]; rfl)) ?_; (with_reducible refine (hebrew_right.calls a0 true _ A4.out).mono ?_); rintro e w' ⟨rfl, ⟨nd, rfl⟩⟩; refine ⟨_, rfl, ?_⟩) | (go_at_call 93; (with_reducible refine (hebrew_last.calls a0 t155 _ A7.out).mono ?_); rintro e w' ⟨rfl, ⟨nd, rfl⟩⟩))
    go_meet
    case rel => exact ⟨_, (decide (a1 > t155)), (by first | rfl | (simp; done) | (simp [*]; done)), H', ⟨by first | omega | exact Nat.le_refl _⟩, by repeat (first | exact Drawn0.refl _ | apply Drawn0.step)⟩
  ·replace c5 := Bool.eq_false_iff.mpr c5
   subst c5
   have H1 : (hebrew_Length.j0 k a0 a1 true) = some r := by rw [if_neg (show ¬ (false = true) by decide)] at H; exact H
   clear H
   have H := H1
   clear H1
   have H' := Aside0.mk H
   clear H
   go_wp2_with (first | ((with_reducible refine gate_callee (f := 92) rfl ?_); refine goesL_ (some 7) rfl rfl Tryd.func92 (by kernel_rfl) rfl #[.int .i64 a0] rfl (by (try simp only [List.map_toArray, List.map_cons, List.map_nil]); first | done | rfl | (simp only [List.length_drop, List.length_take]; rfl)) ?_; (with_reducible refine (hebrew_right.calls a0 false _ A4.out).mono ?_); rintro e w' ⟨rfl, ⟨nd, rfl⟩⟩; refine ⟨_, rfl, ?_⟩))
   go_meet
   case rel => exact ⟨_, (true), (by first | rfl | (simp; done) | (simp [*]; done)), H', ⟨by first | omega | exact Nat.le_refl _⟩, by repeat (first | exact Drawn0.refl _ | apply Drawn0.step)⟩
 case rest =>
  clear HC3
  try clear p2
  try clear c5
  try clear c6
  try clear c6b0
  obtain ⟨kq, x18_2, rfl, HA, HJ2, ⟨mc2, rfl⟩⟩ := hcut
  cases kq with
  | zero => exact absurd HA.out (by simp [hebrew_Length.j0])
  | succ kj2 =>
   have H := HA.out
   clear HA
   simp only [hebrew_Length.j0] at H
   by_cases c8 : x18_2 = true
   ·subst c8
    have H1 : (some 0) = some r := by rw [if_pos rfl] at H; exact H
    clear H
    have H := H1
    clear H1
    obtain rfl := Option.some.inj H
    go_wp2
    go_ret
    exact ⟨by first | rfl | (simp; done) | (simp [*]; done) | (simp [bne_nil_]; done), by repeat (first | exact Drawn0.refl _ | apply Drawn0.step)⟩
   ·replace c8 := Bool.eq_false_iff.mpr c8
    subst c8
    have H1 : ((hebrew_days.f a0).bind fun t156 => (if a1 = 2 then (hebrew_Length.j1 kj2 a0 t156 a1 (a1 == 2)) else (if a1 = 4 then (hebrew_Length.j1 kj2 a0 t156 a1 (a1 == 4)) else (if a1 = 6 then (hebrew_Length.j1 kj2 a0 t156 a1 (a1 == 6)) else (if a1 = 10 then (hebrew_Length.j1 kj2 a0 t156 a1 (a1 == 10)) else (hebrew_Length.j1 kj2 a0 t156 a1 (a1 == 13))))))) = some r := by rw [if_neg (show ¬ (false = true) by decide)] at H; exact H
    clear H
    have H := H1
    clear H1
    replace H := Option.bind_eq_some_iff.mp H
    obtain ⟨t156, A90, H⟩ := H
    replace H : (if a1 = 2 then (hebrew_Length.j1 kj2 a0 t156 a1 (a1 == 2)) else (if a1 = 4 then (hebrew_Length.j1 kj2 a0 t156 a1 (a1 == 4)) else (if a1 = 6 then (hebrew_Length.j1 kj2 a0 t156 a1 (a1 == 6)) else (if a1 = 10 then (hebrew_Length.j1 kj2 a0 t156 a1 (a1 == 10)) else (hebrew_Length.j1 kj2 a0 t156 a1 (a1 == 13)))))) = some r := H
    have A9 := Aside0.mk A90
    clear A90
    have HC10 := Aside0.mk H
    clear H
    go_upto_if 22 with (first | ((with_reducible refine gate_callee (f := 94) rfl ?_); refine goesL_ (some 20) rfl rfl Tryd.func94 (by kernel_rfl) rfl #[.int .i64 a0] rfl (by (try simp only [List.map_toArray, List.map_cons, List.map_nil]); first | done | rfl | (simp only [List.length_drop, List.length_take]; rfl)) ?_; (with_reducible refine (hebrew_days.calls a0 t156 _ A9.out).mono ?_); rintro e w' ⟨rfl, ⟨nd, rfl⟩⟩; refine ⟨_, rfl, ?_⟩))
    (try simp only [Act.put, List.setIfInBounds_toArray, List.set_cons_zero, List.set_cons_succ])
    go_cut [22] (fun v22 wc => ∃ (kq : Nat) (x22_9 : Bool), v22 = .bool x22_9 ∧ Aside0 (hebrew_Length.j1 kq a0 t156 a1 x22_9 = some r) ∧ Aside0 (kq ≤ kj2) ∧ Drawn0 w wc)
    case first =>
     have H := HC10.out
     clear HC10
     by_cases c11 : a1 = 2
     ·rw [if_pos c11] at H
      have c11b0 : (a1 == 2) = true := beq_iff_eq.mpr c11
      have c11b1 : (a1 != 2) = false := bne_eq_false_iff_eq.mpr c11
      clear c11
      (first | rw [c11b0] | (simp only [i64_w, i32_w]; rw [c11b0]) | skip)
      have H' := Aside0.mk H
      clear H
      go_wp2
      go_meet
      case rel => exact ⟨_, ((a1 == 2)), (by first | rfl | (simp; done) | (simp [*]; done)), H', ⟨by have := HJ2.out; first | omega | exact Nat.le_refl _⟩, by repeat (first | exact Drawn0.refl _ | apply Drawn0.step)⟩
     ·rw [if_neg c11] at H
      have c11b0 : (a1 == 2) = false := beq_eq_false_iff_ne.mpr c11
      have c11b1 : (a1 != 2) = true := bne_iff_ne.mpr c11
      (first | rw [c11b0] | (simp only [i64_w, i32_w]; rw [c11b0]) | skip)
      by_cases c12 : a1 = 4
      ·rw [if_pos c12] at H
       have c12b0 : (a1 == 4) = true := beq_iff_eq.mpr c12
       have c12b1 : (a1 != 4) = false := bne_eq_false_iff_eq.mpr c12
       clear c12
       have H' := Aside0.mk H
       clear H
       go_wp2
       go_meet
       case rel => exact ⟨_, ((a1 == 4)), (by first | rfl | (simp; done) | (simp [*]; done)), H', ⟨by have := HJ2.out; first | omega | exact Nat.le_refl _⟩, by repeat (first | exact Drawn0.refl _ | apply Drawn0.step)⟩
      ·rw [if_neg c12] at H
       have c12b0 : (a1 == 4) = false := beq_eq_false_iff_ne.mpr c12
       have c12b1 : (a1 != 4) = true := bne_iff_ne.mpr c12
       by_cases c13 : a1 = 6
       ·rw [if_pos c13] at H
        have c13b0 : (a1 == 6) = true := beq_iff_eq.mpr c13
        have c13b1 : (a1 != 6) = false := bne_eq_false_iff_eq.mpr c13
        clear c13
        have H' := Aside0.mk H
        clear H
        go_wp2
        go_meet
        case rel => exact ⟨_, ((a1 == 6)), (by first | rfl | (simp; done) | (simp [*]; done)), H', ⟨by have := HJ2.out; first | omega | exact Nat.le_refl _⟩, by repeat (first | exact Drawn0.refl _ | apply Drawn0.step)⟩
       ·rw [if_neg c13] at H
        have c13b0 : (a1 == 6) = false := beq_eq_false_iff_ne.mpr c13
        have c13b1 : (a1 != 6) = true := bne_iff_ne.mpr c13
        by_cases c14 : a1 = 10
        ·rw [if_pos c14] at H
         have c14b0 : (a1 == 10) = true := beq_iff_eq.mpr c14
         have c14b1 : (a1 != 10) = false := bne_eq_false_iff_eq.mpr c14
         clear c14
         have H' := Aside0.mk H
         clear H
         go_wp2
         go_meet
         case rel => exact ⟨_, ((a1 == 10)), (by first | rfl | (simp; done) | (simp [*]; done)), H', ⟨by have := HJ2.out; first | omega | exact Nat.le_refl _⟩, by repeat (first | exact Drawn0.refl _ | apply Drawn0.step)⟩
        ·rw [if_neg c14] at H
         have c14b0 : (a1 == 10) = false := beq_eq_false_iff_ne.mpr c14
         have c14b1 : (a1 != 10) = true := bne_iff_ne.mpr c14
         have H' := Aside0.mk H
         clear H
         go_wp2
         go_meet
         case rel => exact ⟨_, ((a1 == 13)), (by first | rfl | (simp; done) | (simp [*]; done)), H', ⟨by have := HJ2.out; first | omega | exact Nat.le_refl _⟩, by repeat (first | exact Drawn0.refl _ | apply Drawn0.step)⟩
    case rest =>
     clear HC10
     try clear c1
     try clear c2
     try clear p2
     try clear c5
     try clear c6
     try clear c6b0
     try clear c8
     try clear c9
     try clear c11
     try clear c11b0
     try clear c11b1
     try clear c12
     try clear c12b0
     try clear c12b1
     try clear c13
     try clear c13b0
     try clear c13b1
     try clear c14
     try clear c14b0
     try clear c14b1
     try clear p2
     obtain ⟨kq, x22_9, rfl, HA, HJ9, ⟨mc9, rfl⟩⟩ := hcut
     cases kq with
     | zero => exact absurd HA.out (by simp [hebrew_Length.j1])
     | succ kj9 =>
      have H := HA.out
      clear HA
      simp only [hebrew_Length.j1] at H
      by_cases c15 : x22_9 = true
      ·subst c15
       have H1 : (some 29) = some r := by rw [if_pos rfl] at H; exact H
       clear H
       have H := H1
       clear H1
       obtain rfl := Option.some.inj H
       go_wp2
       go_ret
       exact ⟨by first | rfl | (simp; done) | (simp [*]; done) | (simp [bne_nil_]; done), by repeat (first | exact Drawn0.refl _ | apply Drawn0.step)⟩
      ·replace c15 := Bool.eq_false_iff.mpr c15
       subst c15
       have H1 : (if a1 = 12 then ((hebrew_leap.f a0).bind fun t157 => (if t157 = true then (some 30) else (some 29))) else (if a1 = 8 then (if t156 = 355 then (some 30) else (if t156 = 385 then (some 30) else (some 29))) else (if a1 = 9 then (if t156 = 353 then (some 29) else (if t156 = 383 then (some 29) else (some 30))) else (some 30)))) = some r := by rw [if_neg (show ¬ (false = true) by decide)] at H; exact H
       clear H
       have H := H1
       clear H1
       by_cases c16 : a1 = 12
       ·rw [if_pos c16] at H
        have c16b0 : (a1 == 12) = true := beq_iff_eq.mpr c16
        have c16b1 : (a1 != 12) = false := bne_eq_false_iff_eq.mpr c16
        clear c16
        replace H := Option.bind_eq_some_iff.mp H
        obtain ⟨t157, A170, H⟩ := H
        replace H : (if t157 = true then (some 30) else (some 29)) = some r := H
        have A17 := Aside0.mk A170
        clear A170
        by_cases c18 : t157 = true
        ·subst c18
         have H1 : (some 30) = some r := by rw [if_pos rfl] at H; exact H
         clear H
         have H := H1
         clear H1
         obtain rfl := Option.some.inj H
         go_wp2_with (first | ((with_reducible refine gate_callee (f := 95) rfl ?_); refine goesL_ (some 31) rfl rfl Tryd.func95 (by kernel_rfl) rfl #[.int .i64 a0] rfl (by (try simp only [List.map_toArray, List.map_cons, List.map_nil]); first | done | rfl | (simp only [List.length_drop, List.length_take]; rfl)) ?_; (with_reducible refine (hebrew_leap.calls a0 true _ A17.out).mono ?_); rintro e w' ⟨rfl, ⟨nd, rfl⟩⟩; refine ⟨_, rfl, ?_⟩))
         go_ret
         exact ⟨by first | rfl | (simp; done) | (simp [*]; done) | (simp [bne_nil_]; done), by repeat (first | exact Drawn0.refl _ | apply Drawn0.step)⟩
        ·replace c18 := Bool.eq_false_iff.mpr c18
         subst c18
         have H1 : (some 29) = some r := by rw [if_neg (show ¬ (false = true) by decide)] at H; exact H
         clear H
         have H := H1
         clear H1
         obtain rfl := Option.some.inj H
         go_wp2_with (first | ((with_reducible refine gate_callee (f := 95) rfl ?_); refine goesL_ (some 31) rfl rfl Tryd.func95 (by kernel_rfl) rfl #[.int .i64 a0] rfl (by (try simp only [List.map_toArray, List.map_cons, List.map_nil]); first | done | rfl | (simp only [List.length_drop, List.length_take]; rfl)) ?_; (with_reducible refine (hebrew_leap.calls a0 false _ A17.out).mono ?_); rintro e w' ⟨rfl, ⟨nd, rfl⟩⟩; refine ⟨_, rfl, ?_⟩))
         go_ret
         exact ⟨by first | rfl | (simp; done) | (simp [*]; done) | (simp [bne_nil_]; done), by repeat (first | exact Drawn0.refl _ | apply Drawn0.step)⟩
       ·rw [if_neg c16] at H
        have c16b0 : (a1 == 12) = false := beq_eq_false_iff_ne.mpr c16
        have c16b1 : (a1 != 12) = true := bne_iff_ne.mpr c16
        by_cases c19 : a1 = 8
        ·rw [if_pos c19] at H
         have c19b0 : (a1 == 8) = true := beq_iff_eq.mpr c19
         have c19b1 : (a1 != 8) = false := bne_eq_false_iff_eq.mpr c19
         clear c19
         by_cases c20 : t156 = 355
         ·rw [if_pos c20] at H
          have c20b0 : (t156 == 355) = true := beq_iff_eq.mpr c20
          have c20b1 : (t156 != 355) = false := bne_eq_false_iff_eq.mpr c20
          clear c20
          obtain rfl := Option.some.inj H
          go_wp2
          go_ret
          exact ⟨by first | rfl | (simp; done) | (simp [*]; done) | (simp [bne_nil_]; done), by repeat (first | exact Drawn0.refl _ | apply Drawn0.step)⟩
         ·rw [if_neg c20] at H
          have c20b0 : (t156 == 355) = false := beq_eq_false_iff_ne.mpr c20
          have c20b1 : (t156 != 355) = true := bne_iff_ne.mpr c20
          by_cases c21 : t156 = 385
          ·rw [if_pos c21] at H
           have c21b0 : (t156 == 385) = true := beq_iff_eq.mpr c21
           have c21b1 : (t156 != 385) = false := bne_eq_false_iff_eq.mpr c21
           clear c21
           obtain rfl := Option.some.inj H
           go_wp2
           go_ret
           exact ⟨by first | rfl | (simp; done) | (simp [*]; done) | (simp [bne_nil_]; done), by repeat (first | exact Drawn0.refl _ | apply Drawn0.step)⟩
          ·rw [if_neg c21] at H
           have c21b0 : (t156 == 385) = false := beq_eq_false_iff_ne.mpr c21
           have c21b1 : (t156 != 385) = true := bne_iff_ne.mpr c21
           obtain rfl := Option.some.inj H
           go_wp2
           go_ret
           exact ⟨by first | rfl | (simp; done) | (simp [*]; done) | (simp [bne_nil_]; done), by repeat (first | exact Drawn0.refl _ | apply Drawn0.step)⟩
        ·rw [if_neg c19] at H
         have c19b0 : (a1 == 8) = false := beq_eq_false_iff_ne.mpr c19
         have c19b1 : (a1 != 8) = true := bne_iff_ne.mpr c19
         by_cases c22 : a1 = 9
         ·rw [if_pos c22] at H
          have c22b0 : (a1 == 9) = true := beq_iff_eq.mpr c22
          have c22b1 : (a1 != 9) = false := bne_eq_false_iff_eq.mpr c22
          clear c22
          by_cases c23 : t156 = 353
          ·rw [if_pos c23] at H
           have c23b0 : (t156 == 353) = true := beq_iff_eq.mpr c23
           have c23b1 : (t156 != 353) = false := bne_eq_false_iff_eq.mpr c23
           clear c23
           obtain rfl := Option.some.inj H
           go_wp2
           go_ret
           exact ⟨by first | rfl | (simp; done) | (simp [*]; done) | (simp [bne_nil_]; done), by repeat (first | exact Drawn0.refl _ | apply Drawn0.step)⟩
          ·rw [if_neg c23] at H
           have c23b0 : (t156 == 353) = false := beq_eq_false_iff_ne.mpr c23
           have c23b1 : (t156 != 353) = true := bne_iff_ne.mpr c23
           by_cases c24 : t156 = 383
           ·rw [if_pos c24] at H
            have c24b0 : (t156 == 383) = true := beq_iff_eq.mpr c24
            have c24b1 : (t156 != 383) = false := bne_eq_false_iff_eq.mpr c24
            clear c24
            obtain rfl := Option.some.inj H
            go_wp2
            go_ret
            exact ⟨by first | rfl | (simp; done) | (simp [*]; done) | (simp [bne_nil_]; done), by repeat (first | exact Drawn0.refl _ | apply Drawn0.step)⟩
           ·rw [if_neg c24] at H
            have c24b0 : (t156 == 383) = false := beq_eq_false_iff_ne.mpr c24
            have c24b1 : (t156 != 383) = true := bne_iff_ne.mpr c24
            obtain rfl := Option.some.inj H
            go_wp2
            go_ret
            exact ⟨by first | rfl | (simp; done) | (simp [*]; done) | (simp [bne_nil_]; done), by repeat (first | exact Drawn0.refl _ | apply Drawn0.step)⟩
         ·rw [if_neg c22] at H
          have c22b0 : (a1 == 9) = false := beq_eq_false_iff_ne.mpr c22
          have c22b1 : (a1 != 9) = true := bne_iff_ne.mpr c22
          obtain rfl := Option.some.inj H
          go_wp2
          go_ret
          exact ⟨by first | rfl | (simp; done) | (simp [*]; done) | (simp [bne_nil_]; done), by repeat (first | exact Drawn0.refl _ | apply Drawn0.step)⟩

/-! ### hebrew_next: function 61 -/
def hebrew_next.f (a0 : Int) (a1 : Int) : Option (Int) := (hebrew_last.f a0).bind fun t158 => (if a1 = t158 then (some 1) else (some (wrap64 (a1 + 1))))
set_option maxHeartbeats 8000000 in
set_option maxRecDepth 100000 in
theorem hebrew_next.calls (a0 : Int) (a1 : Int) (r : Int) (w : World) (h : hebrew_next.f a0 a1 = some r) :
  Calls Tryd.prog 61 #[.int .i64 a0, .int .i64 a1] w fun e w' => e = .returned (.int .i64 r) ∧ Drawn0 w w' := by
 have H : ((hebrew_last.f a0).bind fun t158 => (if a1 = t158 then (some 1) else (some (wrap64 (a1 + 1))))) = some r := h
 clear h
 replace H := Option.bind_eq_some_iff.mp H
 obtain ⟨t158, A30, H⟩ := H
 replace H : (if a1 = t158 then (some 1) else (some (wrap64 (a1 + 1)))) = some r := H
 have A3 := Aside0.mk A30
 clear A30
 by_cases c4 : a1 = t158
 ·rw [if_pos c4] at H
  have c4b0 : (a1 == t158) = true := beq_iff_eq.mpr c4
  have c4b1 : (a1 != t158) = false := bne_eq_false_iff_eq.mpr c4
  clear c4
  obtain rfl := Option.some.inj H
  go_enter Tryd.func61, Tryd.ntmps61
  go_wp2_with (first | ((with_reducible refine gate_callee (f := 93) rfl ?_); refine goesL_ (some 7) rfl rfl Tryd.func93 (by kernel_rfl) rfl #[.int .i64 a0] rfl (by (try simp only [List.map_toArray, List.map_cons, List.map_nil]); first | done | rfl | (simp only [List.length_drop, List.length_take]; rfl)) ?_; (with_reducible refine (hebrew_last.calls a0 t158 _ A3.out).mono ?_); rintro e w' ⟨rfl, ⟨nd, rfl⟩⟩; refine ⟨_, rfl, ?_⟩))
  go_ret
  exact ⟨by first | rfl | (simp; done) | (simp [*]; done) | (simp [bne_nil_]; done), by repeat (first | exact Drawn0.refl _ | apply Drawn0.step)⟩
 ·rw [if_neg c4] at H
  have c4b0 : (a1 == t158) = false := beq_eq_false_iff_ne.mpr c4
  have c4b1 : (a1 != t158) = true := bne_iff_ne.mpr c4
  obtain rfl := Option.some.inj H
  go_enter Tryd.func61, Tryd.ntmps61
  go_wp2_with (first | ((with_reducible refine gate_callee (f := 93) rfl ?_); refine goesL_ (some 7) rfl rfl Tryd.func93 (by kernel_rfl) rfl #[.int .i64 a0] rfl (by (try simp only [List.map_toArray, List.map_cons, List.map_nil]); first | done | rfl | (simp only [List.length_drop, List.length_take]; rfl)) ?_; (with_reducible refine (hebrew_last.calls a0 t158 _ A3.out).mono ?_); rintro e w' ⟨rfl, ⟨nd, rfl⟩⟩; refine ⟨_, rfl, ?_⟩))
  go_ret
  exact ⟨by first | rfl | (simp; done) | (simp [*]; done) | (simp [bne_nil_]; done), by repeat (first | exact Drawn0.refl _ | apply Drawn0.step)⟩

/-! ### hebrew_FromHebrew: function 43 -/
end Go.Proofs.YtgbbgcepcnklkaaDoor.Q
